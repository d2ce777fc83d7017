/- Walks and plain laws that the claim stands on (part 24). -/
import Derived.Test.YtabcnplfkfdeaaaGreatDoorL23
namespace Go.Proofs.YtabcnplfkfdeaaaGreatDoor
open Go.RowKit Go.Proofs.YtabcnplfkfdeaaaGreatDoorW.PrintWords Go.Proofs.YtabcnplfkfdeaaaGreatDoorW.PrintLast Go.Proofs.YtabcnplfkfdeaaaGreatDoorW.PrintMore
set_option linter.unusedVariables false
set_option linter.unusedSimpArgs false
theorem show_all : ∀ d, ShowsAt d
  | 0 => fun _ _ _ _ _ _ _ _ _ _ _ _ _ _ _ _ _ _ h => h.elim
  | d + 1 => show_step d (show_all d)
theorem exists_ok (v : Int) (hv : 2 ≤ v) (hv4 : v < 4) : Q7.naming_exists.f v = some true := by
  unfold Q7.naming_exists.f
  rw [if_pos (by omega)]
  simp [hv4]
set_option maxRecDepth 100000 in
set_option maxHeartbeats 8000000 in
theorem tree_calls (d : Nat) (v : Int) (x r : S25) (A : Option Addr) (c : Nat) (B : Option Addr) (e : Nat) (w : World) (hv : 2 ≤ v) (hv4 : v < 4) (h1 : Kd.C k25 w A x.f10.length x.f10) (h2 : x.f10.length ≤ c) (h3 : Kd.C k44 w B x.f11.length x.f11) (h4 : x.f11.length ≤ e) (hT : Tabs w) (hva : validOf x = some true) (h : ShowR d v 1 ⟨#[]⟩ ⟨#[]⟩ x r) :
    Calls Tryz.prog 65 #[.int .i64 v, .agg #[.string x.f0, .int .i64 x.f1, .string x.f2, .string x.f3, .int .i64 x.f4, .int .i64 x.f5, .int .i64 x.f6, .int .i64 x.f7, .int .i64 x.f8, .int .i64 x.f9, .slice A x.f10.length c, .slice B x.f11.length e], .func (.func 66) #[] #[]] w fun en w' => ∃ v10 v11, en = .returned (.tuple #[.agg #[.string r.f0, .int .i64 r.f1, .string r.f2, .string r.f3, .int .i64 r.f4, .int .i64 r.f5, .int .i64 r.f6, .int .i64 r.f7, .int .i64 r.f8, .int .i64 r.f9, v10, v11], .int .i64 0]) ∧ Kd.R k25 25 w' w.heap.size (fun _ => True) v10 r.f10 ∧ Kd.R k44 44 w' w.heap.size (fun _ => True) v11 r.f11 ∧ Below w.heap.size w w' := by
  have H1 := Aside0.mk h1
  have H2 := Aside0.mk h2
  have H3 := Aside0.mk h3
  have H4 := Aside0.mk h4
  have HT := Aside0.mk hT
  have HVA := Aside0.mk hva
  have HSH := Aside0.mk h
  clear h1 h2 h3 h4 hT hva h
  have hu25 := Tryz.underlying25
  have hu85 := Tryz.underlying85
  go_enter Tryz.func65, Tryz.ntmps65
  go_wp2_with fail
  obtain ⟨w2, h2⟩ : ∃ w2, w2 = (w.alloc (.cells #[.string x.f0, .int .i64 x.f1, .string x.f2, .string x.f3, .int .i64 x.f4, .int .i64 x.f5, .int .i64 x.f6, .int .i64 x.f7, .int .i64 x.f8, .int .i64 x.f9, .slice A x.f10.length c, .slice B x.f11.length e] 25)).alloc (.cells zCells 25) := ⟨_, rfl⟩
  have HB2 := Aside0.mk (show Below w.heap.size w w2 by rw [h2]; exact below_alloc (below_alloc (Below.refl _ _) _) _)
  have k4 : w2.heap[w.heap.size]? = some (.cells #[.string x.f0, .int .i64 x.f1, .string x.f2, .string x.f3, .int .i64 x.f4, .int .i64 x.f5, .int .i64 x.f6, .int .i64 x.f7, .int .i64 x.f8, .int .i64 x.f9, .slice A x.f10.length c, .slice B x.f11.length e] 25 (0, 0)) := by rw [h2]; exact blk_alloc (heap_alloc_new w _) _
  have k6 : w2.heap[w.heap.size + 1]? = some (.cells zCells 25 (0, 0)) := by
    have h := heap_alloc_new (w.alloc (.cells #[.string x.f0, .int .i64 x.f1, .string x.f2, .string x.f3, .int .i64 x.f4, .int .i64 x.f5, .int .i64 x.f6, .int .i64 x.f7, .int .i64 x.f8, .int .i64 x.f9, .slice A x.f10.length c, .slice B x.f11.length e] 25)) (.cells zCells 25)
    simp only [World.size_alloc] at h
    rw [h2]
    exact h
  unfold zCells at h2
  rw [← h2]
  clear h2
  refine (Q7.naming_exists.calls v true w2 (exists_ok v hv hv4)).mono ?_
  rintro en w3 ⟨rfl, hd⟩
  have hb := hd.below
  have HB3 := Aside0.mk (below_step HB2.out hb)
  have k4 := blk_below k4 hb
  have k6 := blk_below k6 hb
  clear hd hb HB2
  obtain ⟨z0, z1, z2, z3, z4, z5, z6, z7, z8, z9, z10, z11⟩ := nd_cells0 k4
  have K6 := Aside0.mk k6
  have K4 := Aside0.mk k4
  clear k6 k4
  go_wp2_with fail
  refine (valid_calls x true A c B e w3 (Kd.C_below H1.out HB3.out) H2.out (Kd.C_below H3.out HB3.out) H4.out (HT.out.below HB3.out) HVA.out).mono ?_
  rintro en w4 ⟨rfl, hb⟩
  have HB4 := Aside0.mk (below_step HB3.out hb)
  have K4 := Aside0.mk (blk_below K4.out hb)
  have K6 := Aside0.mk (blk_below K6.out hb)
  have HL6 := Aside0.mk (blk_lt K6.out)
  clear hb HB3 z0 z1 z2 z3 z4 z5 z6 z7 z8 z9 z10 z11
  obtain ⟨z0, z1, z2, z3, z4, z5, z6, z7, z8, z9, z10, z11⟩ := nd_cells0 K4.out
  go_wp2_with fail
  refine (ShowsAt.run (show_all d) v 1 ⟨#[]⟩ ⟨#[]⟩ x r A c B e w4 hv hv4 (Kd.C_below H1.out HB4.out) H2.out (Kd.C_below H3.out HB4.out) H4.out (HT.out.below HB4.out) HSH.out).mono ?_
  rintro en w5 ⟨u10, u11, rfl, hr10, hr11, hb⟩
  obtain ⟨A10, c10, rfl⟩ := Kd.R_slice hr10
  obtain ⟨A11, c11, rfl⟩ := Kd.R_slice hr11
  have HB5 := Aside0.mk (below_step HB4.out hb)
  have K6 := Aside0.mk (blk_below K6.out hb)
  have R10 := Aside0.mk hr10
  have R11 := Aside0.mk hr11
  have HS4 := Aside0.mk HB4.out.size
  have HL4 := Aside0.mk (show w.heap.size + 1 < w4.heap.size from HL6.out)
  clear hb HB4 hr10 hr11 z0 z1 z2 z3 z4 z5 z6 z7 z8 z9 z10 z11
  go_wp2_with (first | ((with_reducible refine gate_store (t := 25) (p := 6) rfl ?_); refine wpList_store_row rfl 25 (.tmp 6) (.tmp 20) rfl (w.heap.size + 1) _ rfl rfl 25 zCells K6.out sizeNd rfl (by simp [Value.oneCell']) ?_))
  (try simp only [Exit.inBlock, Exit.then])
  refine bodyPost_ret (results_ct rfl _ _ (w.heap.size + 1) _ _ _ _ rfl (setRow_same K6.out) hu25 rfl sizeNd) rfl ?_
  have hbw := HB5.out
  have hl := HL4.out
  refine ⟨_, _, rfl, ?_, ?_, ?_⟩
  · exact Kd.R_lower (Kd.R_mono (Kd.R_step (Kd.R_bound R10.out) (fun k hk _ => setRow_other (by have := hk.2.1; omega))) (fun _ _ => trivial)) HS4.out
  · exact Kd.R_lower (Kd.R_mono (Kd.R_step (Kd.R_bound R11.out) (fun k hk _ => setRow_other (by have := hk.2.1; omega))) (fun _ _ => trivial)) HS4.out
  · exact ⟨hbw.os, hbw.tape, hbw.output, by simpa [World.setRow] using hbw.size, fun k hk => (setRow_other (by omega)).trans (hbw.block k hk)⟩
set_option maxRecDepth 100000 in
set_option maxHeartbeats 8000000 in
theorem view_calls (d : Nat) (v : Int) (x r : S25) (A : Option Addr) (c : Nat) (B : Option Addr) (e : Nat) (w : World) (hv : 2 ≤ v) (hv4 : v < 4) (h1 : Kd.C k25 w A x.f10.length x.f10) (h2 : x.f10.length ≤ c) (h3 : Kd.C k44 w B x.f11.length x.f11) (h4 : x.f11.length ≤ e) (hT : Tabs w) (hva : validOf x = some true) (h : ShowR d v 1 ⟨#[]⟩ ⟨#[]⟩ x r) :
    Calls Tryz.prog 42 #[.int .i64 v, .agg #[.string x.f0, .int .i64 x.f1, .string x.f2, .string x.f3, .int .i64 x.f4, .int .i64 x.f5, .int .i64 x.f6, .int .i64 x.f7, .int .i64 x.f8, .int .i64 x.f9, .slice A x.f10.length c, .slice B x.f11.length e]] w fun en w' => ∃ v10 v11, en = .returned (.tuple #[.agg #[.string r.f0, .int .i64 r.f1, .string r.f2, .string r.f3, .int .i64 r.f4, .int .i64 r.f5, .int .i64 r.f6, .int .i64 r.f7, .int .i64 r.f8, .int .i64 r.f9, v10, v11], .int .i64 0]) ∧ Kd.R k25 25 w' w.heap.size (fun _ => True) v10 r.f10 ∧ Kd.R k44 44 w' w.heap.size (fun _ => True) v11 r.f11 ∧ Below w.heap.size w w' := by
  have H1 := Aside0.mk h1
  have H2 := Aside0.mk h2
  have H3 := Aside0.mk h3
  have H4 := Aside0.mk h4
  have HT := Aside0.mk hT
  have HVA := Aside0.mk hva
  have HSH := Aside0.mk h
  clear h1 h2 h3 h4 hT hva h
  have hu25 := Tryz.underlying25
  go_enter Tryz.func42, Tryz.ntmps42
  go_wp2_with fail
  obtain ⟨w2, h2⟩ : ∃ w2, w2 = (w.alloc (.cells #[.string x.f0, .int .i64 x.f1, .string x.f2, .string x.f3, .int .i64 x.f4, .int .i64 x.f5, .int .i64 x.f6, .int .i64 x.f7, .int .i64 x.f8, .int .i64 x.f9, .slice A x.f10.length c, .slice B x.f11.length e] 25)).alloc (.cells zCells 25) := ⟨_, rfl⟩
  have HB2 := Aside0.mk (show Below w.heap.size w w2 by rw [h2]; exact below_alloc (below_alloc (Below.refl _ _) _) _)
  have k6 : w2.heap[w.heap.size + 1]? = some (.cells zCells 25 (0, 0)) := by
    have h := heap_alloc_new (w.alloc (.cells #[.string x.f0, .int .i64 x.f1, .string x.f2, .string x.f3, .int .i64 x.f4, .int .i64 x.f5, .int .i64 x.f6, .int .i64 x.f7, .int .i64 x.f8, .int .i64 x.f9, .slice A x.f10.length c, .slice B x.f11.length e] 25)) (.cells zCells 25)
    simp only [World.size_alloc] at h
    rw [h2]
    exact h
  have K6 := Aside0.mk k6
  have HL6 := Aside0.mk (blk_lt k6)
  clear k6
  unfold zCells at h2
  rw [← h2]
  clear h2
  refine (tree_calls d v x r A c B e w2 hv hv4 (Kd.C_below H1.out HB2.out) H2.out (Kd.C_below H3.out HB2.out) H4.out (HT.out.below HB2.out) HVA.out HSH.out).mono ?_
  rintro en w5 ⟨u10, u11, rfl, hr10, hr11, hb⟩
  obtain ⟨A10, c10, rfl⟩ := Kd.R_slice hr10
  obtain ⟨A11, c11, rfl⟩ := Kd.R_slice hr11
  have HB5 := Aside0.mk (below_step HB2.out hb)
  have K6 := Aside0.mk (blk_below K6.out hb)
  have R10 := Aside0.mk hr10
  have R11 := Aside0.mk hr11
  have HS4 := Aside0.mk HB2.out.size
  clear hb HB2 hr10 hr11
  go_wp2_with (first | ((with_reducible refine gate_store (t := 25) (p := 4) rfl ?_); refine wpList_store_row rfl 25 (.tmp 4) (.tmp 9) rfl (w.heap.size + 1) _ rfl rfl 25 zCells K6.out sizeNd rfl (by simp [Value.oneCell']) ?_))
  (try simp only [Exit.inBlock, Exit.then])
  refine bodyPost_ret (results_ct rfl _ _ (w.heap.size + 1) _ _ _ _ rfl (setRow_same K6.out) hu25 rfl sizeNd) rfl ?_
  have hbw := HB5.out
  have hl := HL6.out
  refine ⟨_, _, rfl, ?_, ?_, ?_⟩
  · exact Kd.R_lower (Kd.R_mono (Kd.R_step (Kd.R_bound R10.out) (fun k hk _ => setRow_other (by have := hk.2.1; omega))) (fun _ _ => trivial)) HS4.out
  · exact Kd.R_lower (Kd.R_mono (Kd.R_step (Kd.R_bound R11.out) (fun k hk _ => setRow_other (by have := hk.2.1; omega))) (fun _ _ => trivial)) HS4.out
  · exact ⟨hbw.os, hbw.tape, hbw.output, by simpa [World.setRow] using hbw.size, fun k hk => (setRow_other (by omega)).trans (hbw.block k hk)⟩
set_option maxRecDepth 100000 in
set_option maxHeartbeats 8000000 in
theorem vcheck_calls (d : Nat) (v : Int) (a b r : S25) (l : List S34) (ec : Int) (A : Option Addr) (c : Nat) (B : Option Addr) (e : Nat) (A' : Option Addr) (c' : Nat) (B' : Option Addr) (e' : Nat) (w : World) (hv : 2 ≤ v) (hv4 : v < 4) (h1 : Kd.C k25 w A a.f10.length a.f10) (h2 : a.f10.length ≤ c) (h3 : Kd.C k44 w B a.f11.length a.f11) (h4 : a.f11.length ≤ e) (h5 : Kd.C k25 w A' b.f10.length b.f10) (h6 : b.f10.length ≤ c') (h7 : Kd.C k44 w B' b.f11.length b.f11) (h8 : b.f11.length ≤ e') (hT : Tabs w) (hva : validOf a = some true) (hvb : validOf b = some true) (h : ShowR d v 1 ⟨#[]⟩ ⟨#[]⟩ a r) (hc : cmpOf r b = some (l, ec)) :
    Calls Tryz.prog 18 #[.int .i64 v, .agg #[.string a.f0, .int .i64 a.f1, .string a.f2, .string a.f3, .int .i64 a.f4, .int .i64 a.f5, .int .i64 a.f6, .int .i64 a.f7, .int .i64 a.f8, .int .i64 a.f9, .slice A a.f10.length c, .slice B a.f11.length e], .agg #[.string b.f0, .int .i64 b.f1, .string b.f2, .string b.f3, .int .i64 b.f4, .int .i64 b.f5, .int .i64 b.f6, .int .i64 b.f7, .int .i64 b.f8, .int .i64 b.f9, .slice A' b.f10.length c', .slice B' b.f11.length e']] w fun en w' => ∃ v0 : Value, en = .returned (.tuple #[v0, .int .i64 ec]) ∧ Kd.R k34 34 w' w.heap.size (fun _ => True) v0 l ∧ Below w.heap.size w w' := by
  have H1 := Aside0.mk h1
  have H2 := Aside0.mk h2
  have H3 := Aside0.mk h3
  have H4 := Aside0.mk h4
  have H5 := Aside0.mk h5
  have H6 := Aside0.mk h6
  have H7 := Aside0.mk h7
  have H8 := Aside0.mk h8
  have HT := Aside0.mk hT
  have HVA := Aside0.mk hva
  have HVB := Aside0.mk hvb
  have HSH := Aside0.mk h
  have HCM := Aside0.mk hc
  clear h1 h2 h3 h4 h5 h6 h7 h8 hT hva hvb h hc
  have hv0 : ¬ v < 0 := by omega
  have hv0b : decide (v < 0) = false := decide_eq_false hv0
  have hv4b : ¬ (4 : Int) ≤ v := by omega
  have hv4c : decide ((4 : Int) ≤ v) = false := decide_eq_false hv4b
  have hv4d : decide (v ≥ 4) = false := decide_eq_false hv4b
  have hu25 := Tryz.underlying25
  go_enter Tryz.func18, Tryz.ntmps18
  go_wp2_with fail
  obtain ⟨w2, h2⟩ : ∃ w2, w2 = (w.alloc (.cells #[.string a.f0, .int .i64 a.f1, .string a.f2, .string a.f3, .int .i64 a.f4, .int .i64 a.f5, .int .i64 a.f6, .int .i64 a.f7, .int .i64 a.f8, .int .i64 a.f9, .slice A a.f10.length c, .slice B a.f11.length e] 25)).alloc (.cells #[.string b.f0, .int .i64 b.f1, .string b.f2, .string b.f3, .int .i64 b.f4, .int .i64 b.f5, .int .i64 b.f6, .int .i64 b.f7, .int .i64 b.f8, .int .i64 b.f9, .slice A' b.f10.length c', .slice B' b.f11.length e'] 25) := ⟨_, rfl⟩
  have HB2 := Aside0.mk (show Below w.heap.size w w2 by rw [h2]; exact below_alloc (below_alloc (Below.refl _ _) _) _)
  have K4 := Aside0.mk (show w2.heap[w.heap.size]? = some (.cells #[.string a.f0, .int .i64 a.f1, .string a.f2, .string a.f3, .int .i64 a.f4, .int .i64 a.f5, .int .i64 a.f6, .int .i64 a.f7, .int .i64 a.f8, .int .i64 a.f9, .slice A a.f10.length c, .slice B a.f11.length e] 25 (0, 0)) by rw [h2]; exact blk_alloc (heap_alloc_new w _) _)
  have K5 := Aside0.mk (show w2.heap[w.heap.size + 1]? = some (.cells #[.string b.f0, .int .i64 b.f1, .string b.f2, .string b.f3, .int .i64 b.f4, .int .i64 b.f5, .int .i64 b.f6, .int .i64 b.f7, .int .i64 b.f8, .int .i64 b.f9, .slice A' b.f10.length c', .slice B' b.f11.length e'] 25 (0, 0)) by
    have h := heap_alloc_new (w.alloc (.cells #[.string a.f0, .int .i64 a.f1, .string a.f2, .string a.f3, .int .i64 a.f4, .int .i64 a.f5, .int .i64 a.f6, .int .i64 a.f7, .int .i64 a.f8, .int .i64 a.f9, .slice A a.f10.length c, .slice B a.f11.length e] 25)) (.cells #[.string b.f0, .int .i64 b.f1, .string b.f2, .string b.f3, .int .i64 b.f4, .int .i64 b.f5, .int .i64 b.f6, .int .i64 b.f7, .int .i64 b.f8, .int .i64 b.f9, .slice A' b.f10.length c', .slice B' b.f11.length e'] 25)
    simp only [World.size_alloc] at h
    rw [h2]
    exact h)
  rw [← h2]
  clear h2
  refine (valid_calls a true A c B e w2 (Kd.C_below H1.out HB2.out) H2.out (Kd.C_below H3.out HB2.out) H4.out (HT.out.below HB2.out) HVA.out).mono ?_
  rintro en w3 ⟨rfl, hb⟩
  have HB3 := Aside0.mk (below_step HB2.out hb)
  have K4 := Aside0.mk (blk_below K4.out hb)
  have K5 := Aside0.mk (blk_below K5.out hb)
  clear hb HB2
  obtain ⟨y0, y1, y2, y3, y4, y5, y6, y7, y8, y9, y10, y11⟩ := nd_cells0 K5.out
  go_wp2_with fail
  refine (valid_calls b true A' c' B' e' w3 (Kd.C_below H5.out HB3.out) H6.out (Kd.C_below H7.out HB3.out) H8.out (HT.out.below HB3.out) HVB.out).mono ?_
  rintro en w4 ⟨rfl, hb⟩
  have HB4 := Aside0.mk (below_step HB3.out hb)
  have K4 := Aside0.mk (blk_below K4.out hb)
  have K5 := Aside0.mk (blk_below K5.out hb)
  clear hb HB3 y0 y1 y2 y3 y4 y5 y6 y7 y8 y9 y10 y11
  obtain ⟨z0, z1, z2, z3, z4, z5, z6, z7, z8, z9, z10, z11⟩ := nd_cells0 K4.out
  go_wp2_with fail
  refine (view_calls d v a r A c B e w4 hv hv4 (Kd.C_below H1.out HB4.out) H2.out (Kd.C_below H3.out HB4.out) H4.out (HT.out.below HB4.out) HVA.out HSH.out).mono ?_
  rintro en w5 ⟨u10, u11, rfl, hr10, hr11, hb⟩
  obtain ⟨A10, c10, rfl, l10, g10⟩ := Kd.R_reads hr10
  obtain ⟨A11, c11, rfl, l11, g11⟩ := Kd.R_reads hr11
  have HB5 := Aside0.mk (below_step HB4.out hb)
  have K5 := Aside0.mk (blk_below K5.out hb)
  have L10 := Aside0.mk l10
  have C10 := Aside0.mk g10
  have L11 := Aside0.mk l11
  have C11 := Aside0.mk g11
  clear hb HB4 hr10 hr11 z0 z1 z2 z3 z4 z5 z6 z7 z8 z9 z10 z11 l10 g10 l11 g11
  go_upto_region 8 with fail
  obtain ⟨w6, h6⟩ : ∃ w6, w6 = w5.alloc (.cells #[.string r.f0, .int .i64 r.f1, .string r.f2, .string r.f3, .int .i64 r.f4, .int .i64 r.f5, .int .i64 r.f6, .int .i64 r.f7, .int .i64 r.f8, .int .i64 r.f9, .slice A10 r.f10.length c10, .slice A11 r.f11.length c11] 25) := ⟨_, rfl⟩
  have HB6 := Aside0.mk (show Below w.heap.size w w6 by rw [h6]; exact below_alloc HB5.out _)
  have HBa := Aside0.mk (show Below w5.heap.size w5 w6 by rw [h6]; exact below_alloc (Below.refl _ _) _)
  have K5 := Aside0.mk (blk_below K5.out HBa.out)
  have K8 := Aside0.mk (show w6.heap[w5.heap.size]? = some (.cells #[.string r.f0, .int .i64 r.f1, .string r.f2, .string r.f3, .int .i64 r.f4, .int .i64 r.f5, .int .i64 r.f6, .int .i64 r.f7, .int .i64 r.f8, .int .i64 r.f9, .slice A10 r.f10.length c10, .slice A11 r.f11.length c11] 25 (0, 0)) by rw [h6]; exact heap_alloc_new _ _)
  rw [← h6]
  clear h6
  obtain ⟨z0, z1, z2, z3, z4, z5, z6, z7, z8, z9, z10, z11⟩ := nd_cells0 K8.out
  obtain ⟨y0, y1, y2, y3, y4, y5, y6, y7, y8, y9, y10, y11⟩ := nd_cells0 K5.out
  go_wp2_with fail
  refine (cmp_calls r b l ec A10 c10 A11 c11 A' c' B' e' w6 (Kd.C_below C10.out HBa.out) L10.out (Kd.C_below C11.out HBa.out) L11.out (Kd.C_below H5.out HB6.out) H6.out (Kd.C_below H7.out HB6.out) H8.out (HT.out.below HB6.out) HCM.out).mono ?_
  rintro en w7 ⟨v0, rfl, hr, hb⟩
  have HB7 := Aside0.mk (below_step HB6.out hb)
  have HR7 := Aside0.mk (Kd.R_lower hr HB6.out.size)
  clear hr hb z0 z1 z2 z3 z4 z5 z6 z7 z8 z9 z10 z11 y0 y1 y2 y3 y4 y5 y6 y7 y8 y9 y10 y11
  go_wp2
  go_ret2
  exact ⟨_, rfl, HR7.out, HB7.out⟩
end Go.Proofs.YtabcnplfkfdeaaaGreatDoor
