/- Walks and plain laws that the claim stands on (part 27). -/
import Derived.Test.YtabcnplfkfdeaaaGreatDoorL24
import Derived.Test.YtabcnplfkfdeaaaGreatDoorL25
import Derived.Test.YtabcnplfkfdeaaaGreatDoorL26
import Derived.Test.YtabcnplfkfdeaaaGreatDoorL17
namespace Go.Proofs.YtabcnplfkfdeaaaGreatDoor
open Go.RowKit Go.Proofs.YtabcnplfkfdeaaaGreatDoorW.PrintWords Go.Proofs.YtabcnplfkfdeaaaGreatDoorW.PrintLast Go.Proofs.YtabcnplfkfdeaaaGreatDoorW.PrintMore
set_option linter.unusedVariables false
set_option linter.unusedSimpArgs false
def exL : List S34 := [⟨3, ⟨#[97]⟩⟩, ⟨1, ⟨#[98]⟩⟩, ⟨0, ⟨#[99]⟩⟩]
def exT : List ByteArray := [⟨#[100, 97, 116, 97, 32, 97]⟩, ⟨#[101, 120, 116, 114, 97, 32, 98]⟩, ⟨#[109, 105, 115, 115, 105, 110, 103, 32, 99]⟩]
theorem ex_validA : validOf exA = some true := by kernel_rfl
theorem ex_validB : validOf exB = some true := by kernel_rfl
theorem ex_cmp : cmpOf exA exB = some (exL, 0) := by kernel_rfl
theorem ex_format : Q6.viewdiff_Format.f 40 exL = some exT := by kernel_rfl
theorem ex_texts : Q2.slices_Equal_string_string.f 10 exT exT = some true := by kernel_rfl
theorem ex_difs : Q2.api_Difference.f 10 exL exL = some true := by kernel_rfl
theorem ex_count : Q2.viewdiff_Count.f 10 exL 3 = some 1 := by kernel_rfl
theorem ex_below : Q2.viewdiff_Below.f 10 exL ⟨#[99]⟩ = some [⟨0, ⟨#[99]⟩⟩] := by kernel_rfl
def sameOf (a b : S25) : Option Bool := Q4.viewdiff_Same.f a.f0 a.f1 a.f2 a.f3 a.f4 a.f5 a.f6 a.f7 a.f8 a.f9 a.f10 a.f11 b.f0 b.f1 b.f2 b.f3 b.f4 b.f5 b.f6 b.f7 b.f8 b.f9 b.f10 b.f11
theorem ex_sameA : sameOf exA exA = some true := by kernel_rfl
theorem ex_sameB : sameOf exA exB = some false := by kernel_rfl
theorem sorted_nil : SortedN [] := fun i j hi => absurd hi (Nat.not_lt_zero i)
theorem namesOk_nil : NamesOk [] := ⟨by simp, fun i h0 h => by simp at h; omega, fun i h0 h => by simp at h; omega, sorted_nil⟩
theorem show_file (n d : ByteArray) (p s : ByteArray) (lev : Int) : ShowR 1 3 lev p s (exFile n d) (exFile n d) :=
  ⟨namesOk_nil, by simp [exFile], [], rfl, sorted_nil, rfl⟩
theorem ex_rows (i : Int) (h0 : 0 ≤ i) (h : i < 2) : i = 0 ∨ i = 1 := by omega
theorem ex_names : NamesOk exA.f10 := by
  refine ⟨by decide, ?_, ?_, ?_⟩
  · intro i h0 h
    rcases ex_rows i h0 h with rfl | rfl <;> kernel_rfl
  · intro i h0 h
    rcases ex_rows i h0 h with rfl | rfl
    · exact (show (1 : Nat) ≤ maxLen by decide)
    · exact (show (1 : Nat) ≤ maxLen by decide)
  · intro i j hi hj
    have hi : i < 2 := hi
    have hj : j < 2 := hj
    have h1 : i = 0 ∨ i = 1 := by omega
    have h2 : j = 0 ∨ j = 1 := by omega
    rcases h1 with rfl | rfl <;> rcases h2 with rfl | rfl
    · rw [show cmpN_ exA.f10 0 0 = 0 by kernel_rfl]; decide
    · rw [show cmpN_ exA.f10 0 1 = -1 by kernel_rfl]; decide
    · rw [show cmpN_ exA.f10 1 0 = 1 by kernel_rfl]; decide
    · rw [show cmpN_ exA.f10 1 1 = 0 by kernel_rfl]; decide
theorem ex_show : ShowR 2 3 1 ⟨#[]⟩ ⟨#[]⟩ exA exA := by
  refine ⟨ex_names, by decide, exA.f10, ?_, ex_names.rise, rfl⟩
  refine ⟨true, by kernel_rfl, fun _ => ⟨⟨#[97]⟩, ⟨#[97]⟩, _, by kernel_rfl, by kernel_rfl, show_file _ _ _ _ _, ?_⟩, fun h => by cases h⟩
  refine ⟨true, by kernel_rfl, fun _ => ⟨⟨#[99]⟩, ⟨#[99]⟩, _, by kernel_rfl, by kernel_rfl, show_file _ _ _ _ _, ?_⟩, fun h => by cases h⟩
  rfl
theorem file_K (n d : ByteArray) (W : World) : k25.K W (exFile n d) (fileCells n d).toList :=
  k25_mk W (exFile n d) (Nat.le_refl _) (Kd.C_nil k25 W) (Nat.le_refl _) (Kd.C_nil k44 W)
theorem ex_C {W : World} {g : Nat} {n d n' d' : ByteArray} (h : W.heap[g]? = some (.cells (fileCells n d ++ fileCells n' d') 25 (0, 0))) : Kd.C k25 W (some ⟨g, 0, none⟩) 2 [exFile n d, exFile n' d'] := by
  refine ⟨rfl, by decide, fun _ => ⟨_, rfl, fun j p hj => ?_⟩⟩
  match j, hj with
  | 0, hj =>
    obtain rfl : exFile n d = p := by simpa using hj
    refine ⟨(fileCells n d).toList, rfl, file_K n d W, fun i u hi => ?_⟩
    rw [Nat.zero_mul, Nat.zero_add, add_plain, blk_cell h]
    have hlt : i < (fileCells n d).toList.length := (List.getElem?_eq_some_iff.1 hi).1
    rw [Array.getElem?_append_left (by simpa using hlt)]
    simpa using hi
  | 1, hj =>
    obtain rfl : exFile n' d' = p := by simpa using hj
    refine ⟨(fileCells n' d').toList, rfl, file_K n' d' W, fun i u hi => ?_⟩
    have hs : (fileCells n d).size = 12 := rfl
    show W.cell? ((⟨g, 0, none⟩ : Addr).add (1 * 12 + i)) = some u
    rw [Nat.one_mul, add_plain, blk_cell h, Array.getElem?_append_right (by omega), hs, show 12 + i - 12 = i by omega]
    simpa using hi
theorem same_calls (a b : S25) (r : Bool) (A : Option Addr) (c : Nat) (B : Option Addr) (d : Nat) (A' : Option Addr) (c' : Nat) (B' : Option Addr) (d' : Nat) (w : World)
    (h1 : Kd.C k25 w A a.f10.length a.f10) (h2 : a.f10.length ≤ c) (h3 : Kd.C k44 w B a.f11.length a.f11) (h4 : a.f11.length ≤ d) (h5 : Kd.C k25 w A' b.f10.length b.f10) (h6 : b.f10.length ≤ c') (h7 : Kd.C k44 w B' b.f11.length b.f11) (h8 : b.f11.length ≤ d') (hT : Tabs w) (h : sameOf a b = some r) :
    Calls Tryz.prog 16 #[.agg #[.string a.f0, .int .i64 a.f1, .string a.f2, .string a.f3, .int .i64 a.f4, .int .i64 a.f5, .int .i64 a.f6, .int .i64 a.f7, .int .i64 a.f8, .int .i64 a.f9, .slice A a.f10.length c, .slice B a.f11.length d], .agg #[.string b.f0, .int .i64 b.f1, .string b.f2, .string b.f3, .int .i64 b.f4, .int .i64 b.f5, .int .i64 b.f6, .int .i64 b.f7, .int .i64 b.f8, .int .i64 b.f9, .slice A' b.f10.length c', .slice B' b.f11.length d']] w fun e w' => e = .returned (.bool r) ∧ Below w.heap.size w w' :=
  Q4.viewdiff_Same.calls _ _ _ _ _ _ _ _ _ _ A c _ B d _ _ _ _ _ _ _ _ _ _ _ A' c' _ B' d' _ r w h1 h2 h3 h4 h5 h6 h7 h8 hT h
set_option maxRecDepth 100000 in
set_option maxHeartbeats 8000000 in
theorem awake_calls (w : World) (hT : Tabs w) : Calls Tryz.prog 11 #[] w fun e w' => e = .returned (.bool true) ∧ Below w.heap.size w w' := by
  have HT := Aside0.mk hT
  clear hT
  have hu25 := Tryz.underlying25
  go_enter Tryz.func11, Tryz.ntmps11
  go_wp2_with fail
  refine (example_calls w).mono ?_
  rintro e w1 ⟨g, g', rfl, hb, hg, hg'⟩
  have HB1 := Aside0.mk hb
  have CA := Aside0.mk (ex_C hg)
  have CB := Aside0.mk (ex_C hg')
  clear hb hg hg'
  simp only [topCells]
  go_upto_region 2 with fail
  obtain ⟨w2, h2⟩ : ∃ w2, w2 = (w1.alloc (.cells (topCells g) 25)).alloc (.cells (topCells g') 25) := ⟨_, rfl⟩
  have hb12 : Below w1.heap.size w1 w2 := by rw [h2]; exact below_alloc (below_alloc (Below.refl _ _) _) _
  have HB2 := Aside0.mk (below_step HB1.out hb12)
  have CA := Aside0.mk (Kd.C_below CA.out hb12)
  have CB := Aside0.mk (Kd.C_below CB.out hb12)
  have K1 := Aside0.mk (show w2.heap[w1.heap.size]? = some (.cells #[.string exA.f0, .int .i64 exA.f1, .string exA.f2, .string exA.f3, .int .i64 exA.f4, .int .i64 exA.f5, .int .i64 exA.f6, .int .i64 exA.f7, .int .i64 exA.f8, .int .i64 exA.f9, .slice (some ⟨g, 0, none⟩) exA.f10.length 2, .slice none exA.f11.length 0] 25 (0, 0)) by rw [h2]; exact blk_alloc (heap_alloc_new w1 _) _)
  have K2 := Aside0.mk (show w2.heap[w1.heap.size + 1]? = some (.cells #[.string exB.f0, .int .i64 exB.f1, .string exB.f2, .string exB.f3, .int .i64 exB.f4, .int .i64 exB.f5, .int .i64 exB.f6, .int .i64 exB.f7, .int .i64 exB.f8, .int .i64 exB.f9, .slice (some ⟨g', 0, none⟩) exB.f10.length 2, .slice none exB.f11.length 0] 25 (0, 0)) by
    have h := heap_alloc_new (w1.alloc (.cells (topCells g) 25)) (.cells (topCells g') 25)
    simp only [World.size_alloc] at h
    rw [h2]
    exact h)
  simp only [topCells] at h2
  rw [← h2]
  clear h2 hb12 HB1
  obtain ⟨z0, z1, z2, z3, z4, z5, z6, z7, z8, z9, z10, z11⟩ := nd_cells0 K1.out
  obtain ⟨y0, y1, y2, y3, y4, y5, y6, y7, y8, y9, y10, y11⟩ := nd_cells0 K2.out
  go_wp2_with fail
  refine (cmp_calls exA exB exL 0 (some ⟨g, 0, none⟩) 2 none 0 (some ⟨g', 0, none⟩) 2 none 0 w2 CA.out (Nat.le_refl _) (Kd.C_nil _ _) (Nat.le_refl _) CB.out (Nat.le_refl _) (Kd.C_nil _ _) (Nat.le_refl _) (HT.out.below HB2.out) ex_cmp).mono ?_
  rintro e w3 ⟨v3, rfl, hr, hb⟩
  obtain ⟨A3, c3, rfl, l3, g3⟩ := Kd.R_reads hr
  have HB3 := Aside0.mk (below_step HB2.out hb)
  have K1 := Aside0.mk (blk_below K1.out hb)
  have K2 := Aside0.mk (blk_below K2.out hb)
  have CA := Aside0.mk (Kd.C_below CA.out hb)
  have CB := Aside0.mk (Kd.C_below CB.out hb)
  have L3 := Aside0.mk l3
  have C3 := Aside0.mk g3
  clear hb hr l3 g3 HB2 z0 z1 z2 z3 z4 z5 z6 z7 z8 z9 z10 z11 y0 y1 y2 y3 y4 y5 y6 y7 y8 y9 y10 y11
  obtain ⟨z0, z1, z2, z3, z4, z5, z6, z7, z8, z9, z10, z11⟩ := nd_cells0 K1.out
  obtain ⟨y0, y1, y2, y3, y4, y5, y6, y7, y8, y9, y10, y11⟩ := nd_cells0 K2.out
  go_wp2_with fail
  refine (vcheck_calls 2 3 exA exB exA exL 0 (some ⟨g, 0, none⟩) 2 none 0 (some ⟨g', 0, none⟩) 2 none 0 w3 (by decide) (by decide) CA.out (Nat.le_refl _) (Kd.C_nil _ _) (Nat.le_refl _) CB.out (Nat.le_refl _) (Kd.C_nil _ _) (Nat.le_refl _) (HT.out.below HB3.out) ex_validA ex_validB ex_show ex_cmp).mono ?_
  rintro e w4 ⟨v4, rfl, hr, hb⟩
  obtain ⟨A4, c4, rfl, l4, g4⟩ := Kd.R_reads hr
  have HB4 := Aside0.mk (below_step HB3.out hb)
  have K1 := Aside0.mk (blk_below K1.out hb)
  have K2 := Aside0.mk (blk_below K2.out hb)
  have CA := Aside0.mk (Kd.C_below CA.out hb)
  have CB := Aside0.mk (Kd.C_below CB.out hb)
  have C3 := Aside0.mk (Kd.C_below C3.out hb)
  have L4 := Aside0.mk l4
  have C4 := Aside0.mk g4
  clear hb hr l4 g4 HB3 z0 z1 z2 z3 z4 z5 z6 z7 z8 z9 z10 z11 y0 y1 y2 y3 y4 y5 y6 y7 y8 y9 y10 y11
  go_wp2_with fail
  refine (Q6.viewdiff_Format.calls 40 A3 c3 exL exT w4 C3.out L3.out ex_format).mono ?_
  rintro e w5 ⟨v5, rfl, hr, hb⟩
  obtain ⟨A5, c5, rfl, l5, g5⟩ := Kd.R_reads hr
  have HB5 := Aside0.mk (below_step HB4.out hb)
  have K1 := Aside0.mk (blk_below K1.out hb)
  have K2 := Aside0.mk (blk_below K2.out hb)
  have CA := Aside0.mk (Kd.C_below CA.out hb)
  have CB := Aside0.mk (Kd.C_below CB.out hb)
  have C3 := Aside0.mk (Kd.C_below C3.out hb)
  have C4 := Aside0.mk (Kd.C_below C4.out hb)
  have L5 := Aside0.mk l5
  have C5 := Aside0.mk g5
  clear hb hr l5 g5 HB4
  go_wp2_with fail
  obtain ⟨w6, h6⟩ : ∃ w6, w6 = w5.alloc (.cells (encs Value.string exT).toArray 9) := ⟨_, rfl⟩
  have hb : Below w5.heap.size w5 w6 := by rw [h6]; exact below_alloc (Below.refl _ _) _
  have HB6 := Aside0.mk (below_step HB5.out hb)
  have K1 := Aside0.mk (blk_below K1.out hb)
  have K2 := Aside0.mk (blk_below K2.out hb)
  have CA := Aside0.mk (Kd.C_below CA.out hb)
  have CB := Aside0.mk (Kd.C_below CB.out hb)
  have C3 := Aside0.mk (Kd.C_below C3.out hb)
  have C4 := Aside0.mk (Kd.C_below C4.out hb)
  have C5 := Aside0.mk (Kd.C_below C5.out hb)
  have C6 := Aside0.mk (show Kd.C Kd.string w6 (some ⟨w5.heap.size, 0, none⟩) exT.length exT by
    have ho := own_lit_of (enc := Value.string) w5 w5.heap.size 9 exT (Nat.le_refl _) (by decide)
    rw [← h6] at ho
    exact (Kd.R_reads' (R_of_own ho rfl)).2.2)
  simp only [encs, exT, List.map_cons, List.map_nil] at h6
  rw [← h6]
  clear h6 hb HB5
  refine (Q2.slices_Equal_string_string.calls 10 A5 c5 exT (some ⟨w5.heap.size, 0, none⟩) 3 exT true w6 C5.out L5.out C6.out (Nat.le_refl _) ex_texts).mono ?_
  rintro e w7 ⟨rfl, hd⟩
  have hb := hd.below
  have HB7 := Aside0.mk (below_step HB6.out hb)
  have K1 := Aside0.mk (blk_below K1.out hb)
  have K2 := Aside0.mk (blk_below K2.out hb)
  have CA := Aside0.mk (Kd.C_below CA.out hb)
  have CB := Aside0.mk (Kd.C_below CB.out hb)
  have C3 := Aside0.mk (Kd.C_below C3.out hb)
  have C4 := Aside0.mk (Kd.C_below C4.out hb)
  clear hb hd HB6
  obtain ⟨z0, z1, z2, z3, z4, z5, z6, z7, z8, z9, z10, z11⟩ := nd_cells0 K1.out
  go_wp2_with fail
  refine (same_calls exA exA true (some ⟨g, 0, none⟩) 2 none 0 (some ⟨g, 0, none⟩) 2 none 0 w7 CA.out (Nat.le_refl _) (Kd.C_nil _ _) (Nat.le_refl _) CA.out (Nat.le_refl _) (Kd.C_nil _ _) (Nat.le_refl _) (HT.out.below HB7.out) ex_sameA).mono ?_
  rintro e w8 ⟨rfl, hb⟩
  have HB8 := Aside0.mk (below_step HB7.out hb)
  have K1 := Aside0.mk (blk_below K1.out hb)
  have K2 := Aside0.mk (blk_below K2.out hb)
  have CA := Aside0.mk (Kd.C_below CA.out hb)
  have CB := Aside0.mk (Kd.C_below CB.out hb)
  have C3 := Aside0.mk (Kd.C_below C3.out hb)
  have C4 := Aside0.mk (Kd.C_below C4.out hb)
  clear hb HB7 z0 z1 z2 z3 z4 z5 z6 z7 z8 z9 z10 z11
  obtain ⟨z0, z1, z2, z3, z4, z5, z6, z7, z8, z9, z10, z11⟩ := nd_cells0 K1.out
  obtain ⟨y0, y1, y2, y3, y4, y5, y6, y7, y8, y9, y10, y11⟩ := nd_cells0 K2.out
  go_wp2_with fail
  refine (same_calls exA exB false (some ⟨g, 0, none⟩) 2 none 0 (some ⟨g', 0, none⟩) 2 none 0 w8 CA.out (Nat.le_refl _) (Kd.C_nil _ _) (Nat.le_refl _) CB.out (Nat.le_refl _) (Kd.C_nil _ _) (Nat.le_refl _) (HT.out.below HB8.out) ex_sameB).mono ?_
  rintro e w9 ⟨rfl, hb⟩
  have HB9 := Aside0.mk (below_step HB8.out hb)
  have K1 := Aside0.mk (blk_below K1.out hb)
  have K2 := Aside0.mk (blk_below K2.out hb)
  have CA := Aside0.mk (Kd.C_below CA.out hb)
  have CB := Aside0.mk (Kd.C_below CB.out hb)
  have C3 := Aside0.mk (Kd.C_below C3.out hb)
  have C4 := Aside0.mk (Kd.C_below C4.out hb)
  clear hb HB8 z0 z1 z2 z3 z4 z5 z6 z7 z8 z9 z10 z11 y0 y1 y2 y3 y4 y5 y6 y7 y8 y9 y10 y11
  go_wp2_with fail
  refine (Q2.api_Difference.calls 10 A4 c4 exL A3 c3 exL true w9 C4.out L4.out C3.out L3.out ex_difs).mono ?_
  rintro e w10 ⟨rfl, hd⟩
  have hb := hd.below
  have HB10 := Aside0.mk (below_step HB9.out hb)
  have K1 := Aside0.mk (blk_below K1.out hb)
  have K2 := Aside0.mk (blk_below K2.out hb)
  have CA := Aside0.mk (Kd.C_below CA.out hb)
  have CB := Aside0.mk (Kd.C_below CB.out hb)
  have C3 := Aside0.mk (Kd.C_below C3.out hb)
  have C4 := Aside0.mk (Kd.C_below C4.out hb)
  clear hb hd HB9
  go_wp2_with fail
  refine (Q2.viewdiff_Count.calls 10 A3 c3 exL 3 1 w10 C3.out L3.out ex_count).mono ?_
  rintro e w11 ⟨rfl, hb⟩
  have HB11 := Aside0.mk (below_step HB10.out hb)
  have K1 := Aside0.mk (blk_below K1.out hb)
  have K2 := Aside0.mk (blk_below K2.out hb)
  have CA := Aside0.mk (Kd.C_below CA.out hb)
  have CB := Aside0.mk (Kd.C_below CB.out hb)
  have C3 := Aside0.mk (Kd.C_below C3.out hb)
  have C4 := Aside0.mk (Kd.C_below C4.out hb)
  clear hb HB10
  go_wp2_with fail
  refine (Q2.viewdiff_Below.calls 10 A3 c3 exL ⟨#[99]⟩ [⟨0, ⟨#[99]⟩⟩] w11 C3.out L3.out ex_below).mono ?_
  rintro e w12 ⟨v12, rfl, hr, hb⟩
  obtain ⟨A12, c12, rfl⟩ := Kd.R_slice hr
  have HB12 := Aside0.mk (below_step HB11.out hb)
  have K1 := Aside0.mk (blk_below K1.out hb)
  have K2 := Aside0.mk (blk_below K2.out hb)
  have CA := Aside0.mk (Kd.C_below CA.out hb)
  have CB := Aside0.mk (Kd.C_below CB.out hb)
  clear hb hr HB11
  go_wp2
  go_ret
  exact ⟨by first | rfl | (simp; done), HB12.out⟩
end Go.Proofs.YtabcnplfkfdeaaaGreatDoor
