/- Walks and plain laws that the claim stands on (part 11). -/
import Derived.Test.YtabcnplfkfdeaaaGreatDoorL5
import Derived.Test.YtabcnplfkfdeaaaGreatDoorL7
import Derived.Test.YtabcnplfkfdeaaaGreatDoorL9
import Derived.Test.YtabcnplfkfdeaaaGreatDoorL10
import Derived.Maps.Own
namespace Go.Proofs.YtabcnplfkfdeaaaGreatDoor
open Go.RowKit Go.Proofs.YtabcnplfkfdeaaaGreatDoorW.PrintWords Go.Proofs.YtabcnplfkfdeaaaGreatDoorW.PrintLast Go.Proofs.YtabcnplfkfdeaaaGreatDoorW.PrintMore
set_option linter.unusedVariables false
set_option linter.unusedSimpArgs false
def namesL (l : List S25) : List ByteArray := l.map (·.f0)
def outL (l : List S25) (k : Nat) : List ByteArray := (namesL l).take k ++ List.replicate (l.length - k) ⟨#[]⟩
def ordL (n k : Nat) : List Int := idL k ++ List.replicate (n - k) 0
theorem ordL_set (n k : Nat) (h : k < n) : (ordL n k).set k k = ordL n (k + 1) := by
  unfold ordL idL
  rw [List.set_append_right _ _ (by simp)]
  simp only [List.length_map, List.length_range, Nat.sub_self]
  obtain ⟨m, rfl⟩ : ∃ m, n = k + 1 + m := ⟨n - (k + 1), by omega⟩
  rw [show k + 1 + m - k = m + 1 by omega, show k + 1 + m - (k + 1) = m by omega, List.replicate_succ, List.set_cons_zero, List.range_succ, List.map_append]
  simp
theorem ordL_zero (n : Nat) : ordL n 0 = List.replicate n 0 := by simp [ordL, idL]
theorem ordL_full (n : Nat) : ordL n n = idL n := by simp [ordL]
theorem outL_zero (l : List S25) : outL l 0 = List.replicate l.length ⟨#[]⟩ := by simp [outL]
theorem outL_full (l : List S25) : outL l l.length = namesL l := by
  unfold outL
  rw [List.take_of_length_le (by simp [namesL])]
  simp
theorem outL_set (l : List S25) (k : Nat) (h : k < l.length) : (outL l k).set k (rd_T25 l k).f0 = outL l (k + 1) := by
  unfold outL
  have hk : ((namesL l).take k).length = k := by simp [namesL]; omega
  rw [List.set_append_right _ _ (by omega), hk, Nat.sub_self]
  obtain ⟨m, hm⟩ : ∃ m, l.length = k + 1 + m := ⟨l.length - (k + 1), by omega⟩
  rw [hm, show k + 1 + m - k = m + 1 by omega, show k + 1 + m - (k + 1) = m by omega, List.replicate_succ, List.set_cons_zero]
  have e : (namesL l).take (k + 1) = (namesL l).take k ++ [(rd_T25 l k).f0] := by
    rw [List.take_add_one]
    simp [namesL, rd_T25, List.getElem?_eq_getElem h, List.getD_eq_getElem?_getD]
  rw [e, List.append_assoc]
  rfl
theorem R_of_own {W : World} {base g n cap e : Nat} {xs : List ByteArray} (h : W.ownsRow base e 1 (.slice (some ⟨g, 0, none⟩) n cap) n (encs Value.string xs)) (hn : xs.length = n) : Kd.R Kd.string e W base (fun _ => True) (.slice (some ⟨g, 0, none⟩) n cap) xs := by
  refine ⟨fun _ _ => trivial, encs Value.string xs, by rw [hn]; exact h, by simp [encs, Kd.string, Kd.scalar], fun j p hj => ?_⟩
  have hlt := (List.getElem?_eq_some_iff.1 hj).1
  show List.take 1 (List.drop (j * 1) (encs Value.string xs)) = [Value.string p]
  rw [Nat.mul_one]
  unfold encs
  rw [← List.map_drop, ← List.map_take, List.take_one, List.head?_drop, hj]
  rfl
theorem toList_inj {a b : ByteArray} (h : a.toList = b.toList) : a = b := by
  rw [ByteArray.toList_eq, ByteArray.toList_eq] at h
  cases a
  cases b
  simpa using h
theorem sorted_ne {l : List S25} (hs : SortedN l) (n : Int) (h0 : 0 < n) (hn : n < l.length) : (rd_T25 l (n - 1)).f0 ≠ (rd_T25 l n).f0 := by
  intro he
  have h1 := hs (n - 1).toNat n.toNat (by omega) (by omega)
  have h2 := hs n.toNat (n - 1).toNat (by omega) (by omega)
  unfold cmpN_ at h1 h2
  rw [Int.toNat_of_nonneg (show 0 ≤ n - 1 by omega), Int.toNat_of_nonneg (show 0 ≤ n by omega), he] at h1 h2
  have h3 := h1.2 (by omega)
  have h4 := h2.1 h3
  omega
set_option maxRecDepth 100000 in
set_option maxHeartbeats 8000000 in
theorem names_calls (v : Int) (l : List S25) (A : Option Addr) (c : Nat) (w : World) (hv : 2 ≤ v) (hv4 : v < 4) (hC : Kd.C k25 w A l.length l) (hc : l.length ≤ c) (h64 : l.length ≤ 64)
    (hn : ∀ i : Int, 0 ≤ i → i < l.length → Q.sourcetree_Name.f (rd_T25 l i).f0 = some true) (hz : ∀ i : Int, 0 ≤ i → i < l.length → (rd_T25 l i).f0.size ≤ maxLen) (hs : SortedN l) (hT : Tabs w) :
    Calls Tryz.prog 105 #[.int .i64 v, .slice A l.length c] w fun e w' => ∃ v0, e = .returned (.tuple #[v0, .int .i64 0]) ∧ Kd.R Kd.string 9 w' w.heap.size (fun _ => True) v0 (namesL l) ∧ Below w.heap.size w w' := by
  have HC := Aside0.mk hC
  have HN := Aside0.mk hn
  have HZ := Aside0.mk hz
  have HS := Aside0.mk hs
  have HT := Aside0.mk hT
  clear hC hn hz hs hT
  have hex : Q7.naming_exists.f v = some true := by
    unfold Q7.naming_exists.f
    rw [if_pos (by omega)]
    simp [hv4]
  have hmk1 := print_make 104 3 .i64 8 Tryz.underlying104 (by kernel_rfl) (by decide) l.length (by omega)
  have hmk2 := print_make_of 46 9 (.string ⟨#[]⟩) 16 Tryz.underlying46 (by kernel_rfl) rfl (by decide) l.length (by omega)
  have hmm := @run_makeMap Tryz.prog
  have hu25 := Tryz.underlying25
  go_enter Tryz.func105, Tryz.ntmps105
  have hm := Kd.C_max HC.out
  have h64a : ¬ (64 : Int) < (l.length : Int) := by omega
  have h64b : decide ((64 : Int) < (l.length : Int)) = false := decide_eq_false h64a
  go_wp2_with fail
  obtain ⟨w1, h1⟩ : ∃ w1, w1 = w.alloc (.cells #[.slice A l.length c] 22) := ⟨_, rfl⟩
  have HB1 := Aside0.mk (show Below w.heap.size w w1 by rw [h1]; exact below_alloc (Below.refl _ _) _)
  have k1 : w1.heap[w.heap.size]? = some (.cells #[.slice A l.length c] 22 (0, 0)) := by rw [h1]; exact heap_alloc_new _ _
  rw [← h1]
  clear h1
  refine (Q7.naming_exists.calls v true w1 hex).mono ?_
  rintro e w2 ⟨rfl, hd⟩
  have hb2 := hd.below
  have HB2 := Aside0.mk (below_step HB1.out hb2)
  have k2 := blk_below k1 hb2
  clear hd hb2 k1 HB1
  have x2 : w2.cell? ⟨w.heap.size, 0, none⟩ = some (.slice A l.length c) := (blk_cell k2 0).trans rfl
  go_upto_region 6 with fail
  obtain ⟨w3, h3⟩ : ∃ w3, w3 = w2.alloc (.cells (madeCells #[.int .i64 0] l.length) 3) := ⟨_, rfl⟩
  have HB3 := Aside0.mk (show Below w.heap.size w w3 by rw [h3]; exact below_alloc HB2.out _)
  have k3 : w3.heap[w.heap.size]? = some (.cells #[.slice A l.length c] 22 (0, 0)) := by rw [h3]; exact blk_alloc k2 _
  have HO3 := Aside0.mk (show w3.ownsRow w.heap.size 3 1 (.slice (some ⟨w2.heap.size, 0, none⟩) l.length l.length) l.length (nums .i64 (ordL l.length 0)) by rw [h3, ordL_zero]; exact own_made w2 w.heap.size 3 .i64 l.length HB2.out.size (by omega))
  have HBO := Aside0.mk (show w.heap.size < w2.heap.size from blk_lt k2)
  rw [← h3]
  clear h3 k2
  obtain ⟨bo, hbo⟩ : ∃ bo, bo = w2.heap.size := ⟨_, rfl⟩
  rw [← hbo] at HO3 HBO ⊢
  clear x2 hbo HB2
  have x3 : w3.cell? ⟨w.heap.size, 0, none⟩ = some (.slice A l.length c) := (blk_cell k3 0).trans rfl
  go_wp2_with fail
  clear x3
  go_loopg [27] l.length (fun kq v27 W => ∃ i : Int, v27 = .int .i64 i ∧ Aside0 (0 ≤ i ∧ i + kq = l.length) ∧ Aside0 (W.heap[w.heap.size]? = some (.cells #[.slice A l.length c] 22 (0, 0))) ∧ Aside0 (W.ownsRow w.heap.size 3 1 (.slice (some ⟨bo, 0, none⟩) l.length l.length) l.length (nums .i64 (ordL l.length i.toNat))) ∧ Aside0 (Below w.heap.size w W))
  case atStart => exact ⟨0, rfl, ⟨by omega⟩, ⟨k3⟩, HO3, HB3⟩
  case round =>
    obtain ⟨i, rfl, HI, HK, HO, HB⟩ := hrel
    have hi' := HI.out
    have x3 : wr.cell? ⟨w.heap.size, 0, none⟩ = some (.slice A l.length c) := (blk_cell HK.out 0).trans rfl
    clear k3 HO3 HB3
    cases gk with
    | zero =>
      have hi : ¬ i < (l.length : Int) := by omega
      have di : decide (i < (l.length : Int)) = false := decide_eq_false hi
      have hii : i.toNat = l.length := by omega
      rw [hii, ordL_full] at HO
      clear hi' hii HI
      go_wp2_with fail
      refine (sortInts_calls l A c w.heap.size bo w wr HC.out HB.out HS.out HK.out (by have := HBO.out; omega) (by have := HBO.out; omega) (by omega) HO.out).mono ?_
      rintro e w6 ⟨rfl, hb6⟩
      have HB6 := Aside0.mk (below_step HB.out hb6)
      have k6 := blk_below HK.out hb6
      have HO6 := Aside0.mk (pw_own_below HO.out hb6)
      clear hb6 HK HO HB x3
      have x6 : w6.cell? ⟨w.heap.size, 0, none⟩ = some (.slice A l.length c) := (blk_cell k6 0).trans rfl
      go_upto_region 15 with fail
      clear x6
      have hlt6 := own_lt HO6.out bo rfl
      obtain ⟨w7, h7⟩ : ∃ w7, w7 = (w6.alloc (.cells (madeCells #[.string ⟨#[]⟩] l.length) 9)).alloc (.map #[] 0) := ⟨_, rfl⟩
      have hb67 : Below w6.heap.size w6 w7 := by rw [h7]; exact below_alloc (below_alloc (Below.refl _ _) _) _
      have HB7 := Aside0.mk (below_step HB6.out hb67)
      have K7 := Aside0.mk (blk_below k6 hb67)
      have HO7 := Aside0.mk (pw_own_below HO6.out hb67)
      have HX7 := Aside0.mk (show w7.ownsRow w.heap.size 9 1 (.slice (some ⟨w6.heap.size, 0, none⟩) l.length l.length) l.length (encs Value.string (outL l 0)) by
        rw [h7, outL_zero]
        exact pw_own_below (own_made_of (enc := Value.string) (d := ⟨#[]⟩) w6 w.heap.size 9 l.length HB6.out.size (by omega)) (below_alloc (Below.refl _ _) _))
      have HM7 := Aside0.mk (show ∃ D : DataW Unit, w7.ownsMap Tryz.prog 9 (plainElem Tryz.prog 4) (w6.heap.size + 1) 0 D by
        rw [h7]
        have h := World.ownsMap_made (H := Unit) (P := Tryz.prog) (k := 9) (R := plainElem Tryz.prog 4) (w6.alloc (.cells (madeCells #[.string ⟨#[]⟩] l.length) 9))
        simp only [World.size_alloc] at h
        exact ⟨_, h⟩)
      rw [← h7]
      clear h7 hb67 k6 HO6
      obtain ⟨bx, hbx⟩ : ∃ bx, bx = w6.heap.size := ⟨_, rfl⟩
      rw [← hbx] at HX7 HM7 hlt6 ⊢
      clear hbx HB6
      have HLX := Aside0.mk hlt6
      clear hlt6
      have hlaw : Go.Maps.Keyed Tryz.prog 9 := Go.Maps.string_keyed Tryz.underlying9
      go_wp2_with fail
      go_loopg [50] l.length (fun kq v50 W => ∃ i : Int, v50 = .int .i64 i ∧ Aside0 (0 ≤ i ∧ i + kq = l.length) ∧ Aside0 (W.heap[w.heap.size]? = some (.cells #[.slice A l.length c] 22 (0, 0))) ∧ Aside0 (W.ownsRow w.heap.size 3 1 (.slice (some ⟨bo, 0, none⟩) l.length l.length) l.length (nums .i64 (idL l.length))) ∧ Aside0 (W.ownsRow w.heap.size 9 1 (.slice (some ⟨bx, 0, none⟩) l.length l.length) l.length (encs Value.string (outL l i.toNat))) ∧ Aside0 (∃ D : DataW Unit, W.ownsMap Tryz.prog 9 (plainElem Tryz.prog 4) (bx + 1) i.toNat D) ∧ Aside0 (Below w.heap.size w W))
      case atStart => exact ⟨0, rfl, ⟨by omega⟩, K7, HO7, HX7, HM7, HB7⟩
      case round =>
        clear K7 HO7 HX7 HM7 HB7
        obtain ⟨n, rfl, HI, HK, HO, HX, HM, HB⟩ := hrel
        have hi' := HI.out
        have x3 : wr.cell? ⟨w.heap.size, 0, none⟩ = some (.slice A l.length c) := (blk_cell HK.out 0).trans rfl
        cases gk with
        | zero =>
          have hn : ¬ n < (l.length : Int) := by omega
          have dn : decide (n < (l.length : Int)) = false := decide_eq_false hn
          have hnn : n.toNat = l.length := by omega
          rw [hnn, outL_full] at HX
          clear hi' hnn HI HM
          go_wp2
          go_ret2
          exact ⟨_, rfl, R_of_own HX.out (by simp [namesL]), HB.out⟩
        | succ k1 =>
          have hn : n < (l.length : Int) := by omega
          have hn0 : 0 ≤ n := hi'.1
          have dn : decide (n < (l.length : Int)) = true := decide_eq_true hn
          have HN1 := Aside0.mk (show 0 ≤ n + 1 ∧ n + 1 + k1 = l.length by omega)
          have HW := Aside0.mk (show wrap64 (n + 1) = n + 1 by unfold wrap64; omega)
          obtain ⟨ad, A10, c10, A11, c11, eA, z0, -⟩ := at_T25 (Kd.C_below HC.out HB.out) n hn0 hn
          have o1 := (own_at HO.out n hn0 hn).1
          rw [show rd (idL l.length) n = n from by have := rd_idL l.length n.toNat (by omega); rwa [Int.toNat_of_nonneg hn0] at this] at o1
          have y0 := (own_at_of (d := ⟨#[]⟩) HX.out n hn0 hn).1
          have y1 := (own_at_of (d := ⟨#[]⟩) HX.out n hn0 hn).2
          have HQ := Aside0.mk (show 0 < n → ∃ m : Int, wrap64 (n - 1) = m ∧ 0 ≤ m ∧ m < l.length ∧ wr.cell? ⟨bo, m.toNat, none⟩ = some (.int .i64 m) ∧ wr.cell? (ad.add (m.toNat * 12)) = some (.string (rd_T25 l m).f0) ∧ (rd_T25 l m).f0 ≠ (rd_T25 l n).f0 from fun h => by
            refine ⟨n - 1, by unfold wrap64; omega, by omega, by omega, ?_, ?_, sorted_ne HS.out n h hn⟩
            · have o2 := (own_at HO.out (n - 1) (by omega) (by omega)).1
              rwa [show rd (idL l.length) (n - 1) = n - 1 from by have := rd_idL l.length (n - 1).toNat (by omega); rwa [Int.toNat_of_nonneg (show 0 ≤ n - 1 by omega)] at this] at o2
            · obtain ⟨ad2, _, _, _, _, eA2, q0, -⟩ := at_T25 (Kd.C_below HC.out HB.out) (n - 1) (by omega) (by omega)
              rw [eA] at eA2
              cases eA2
              exact q0)
          subst eA
          clear hi'
          replace hn0 := eq_true hn0
          replace hn := eq_true hn
          go_upto_region 18 with fail
          go_cut [73] (fun v73 wc => v73 = .bool false ∧ ∃ nq, wc = wr.drewN nq)
          case first =>
            by_cases h0 : (0 : Int) < n
            · obtain ⟨m, p2, p0, p1, p3, p4, hne⟩ := HQ.out h0
              have d0 : decide (0 < n) = true := decide_eq_true h0
              have hne3 : ¬ (rd_T25 l m).f0.toList = (rd_T25 l n).f0.toList := fun h => hne (toList_inj h)
              replace p0 := eq_true p0
              replace p1 := eq_true p1
              clear HQ
              go_quiet (fail)
              go_wp2_with fail
              go_meet
              exact ⟨by first | rfl | (simp; done) | (simp [*]; done), nq, rfl⟩
            · have d0 : decide (0 < n) = false := decide_eq_false h0
              clear HQ
              go_quiet (fail)
              go_wp2_with fail
              go_meet
              exact ⟨by first | rfl | (simp; done) | (simp [*]; done), nq, rfl⟩
          case rest =>
            obtain ⟨rfl, nq, rfl⟩ := hcut
            have hv0 : ¬ v = 0 := by omega
            have hv1 : ¬ v = 1 := by omega
            have hv0b : (v == 0) = false := by simpa using hv0
            have hv1b : (v == 1) = false := by simpa using hv1
            have hkey : keyOf Tryz.prog 9 (.string (rd_T25 l n).f0) = some (.string (rd_T25 l n).f0.data.toList) := Go.WideMaps.keyOf_string_mk Tryz.underlying9 (HZ.out n (of_eq_true hn0) (of_eq_true hn))
            obtain ⟨D, hown⟩ := HM.out
            have HOWN := Aside0.mk (show (wr.drewN nq).ownsMap Tryz.prog 9 (plainElem (H := Unit) Tryz.prog 4) (bx + 1) n.toNat D from hown)
            have HLN := Aside0.mk (show n.toNat < maxLen from by have := of_eq_true hn; unfold maxLen; omega)
            clear hown HM HQ y0 y1
            go_wp2_with (first | (at_mapUpdate; refine wpList_mapUpdate_own _ rfl _ _ _ 124 rfl 9 4 hlaw Tryz.underlying124 (plainElem (H := Unit) Tryz.prog 4) (bx + 1) n.toNat D rfl HOWN.out HLN.out _ _ _ rfl rfl hkey _ [] (plainElem_bool Tryz.underlying4 true) ?_; intro w8 hown8 hgrow8; have HX8 := Aside0.mk (own_other (show (wr.drewN nq).ownsRow w.heap.size 9 1 (.slice (some ⟨bx, 0, none⟩) l.length l.length) l.length (encs Value.string (outL l n.toNat)) from HX.out) hgrow8 (.inr (by simp [Value.ownBlock]))); have y0 := (own_at_of (d := ⟨#[]⟩) HX8.out n (of_eq_true hn0) (of_eq_true hn)).1; have y1 := (own_at_of (d := ⟨#[]⟩) HX8.out n (of_eq_true hn0) (of_eq_true hn)).2))
            go_roundg k1
            case measure => omega
            case rel =>
              have hbo := HBO.out
              have hlx := HLX.out
              have hbw : Below w.heap.size w w8 := pw_below_grown (show Below w.heap.size w (wr.drewN nq) from pw_below_drewN HB.out nq) (some (bx + 1)) HB.out.size hgrow8 (fun k hk => by cases hk; omega)
              have hx := own_store_of (enc := Value.string) HX8.out n (rd_T25 l n).f0
              have hk8 := blk_grown (show (wr.drewN nq).heap[w.heap.size]? = _ from HK.out) hgrow8 (by simp; omega)
              have ho8 := own_other (show (wr.drewN nq).ownsRow w.heap.size 3 1 (.slice (some ⟨bo, 0, none⟩) l.length l.length) l.length (nums .i64 (idL l.length)) from HO.out) hgrow8 (.inr (by simp [Value.ownBlock]; omega))
              have hnn : (n + 1).toNat = n.toNat + 1 := by have := of_eq_true hn0; omega
              have hset : (outL l n.toNat).set n.toNat (rd_T25 l n).f0 = outL l (n + 1).toNat := by
                have h2 := outL_set l n.toNat (by have := of_eq_true hn0; have := of_eq_true hn; omega)
                rw [Int.toNat_of_nonneg (of_eq_true hn0)] at h2
                rw [h2, hnn]
              refine ⟨n + 1, (by rw [HW.out]), HN1, ⟨blk_far hk8 (by show w.heap.size ≠ bx; omega) _⟩, ⟨?_⟩, ⟨?_⟩, ⟨?_⟩, ⟨below_set hbw (by show w.heap.size ≤ bx; omega)⟩⟩
              · exact own_other ho8 hx.2 (.inr (by simp [Value.ownBlock]; omega))
              · rw [← hset]; exact hx.1
              · rw [hnn]
                exact ⟨_, hown8.kept hx.2 (by simp)⟩
    | succ k1 =>
      have hi : i < (l.length : Int) := by omega
      have hi0 : 0 ≤ i := hi'.1
      have di : decide (i < (l.length : Int)) = true := decide_eq_true hi
      have HN1 := Aside0.mk (show 0 ≤ i + 1 ∧ i + 1 + k1 = l.length by omega)
      have HW := Aside0.mk (show wrap64 (i + 1) = i + 1 by unfold wrap64; omega)
      obtain ⟨ad, A10, c10, A11, c11, eA, z0, z1, z2, z3, z4, z5, z6, z7, z8, z9, z10, z11, -⟩ := at_T25 (Kd.C_below HC.out HB.out) i hi0 hi
      have HNi := Aside0.mk (HN.out i hi0 hi)
      have HS1 := Aside0.mk (show i.toNat < l.length by omega)
      subst eA
      clear hi'
      replace hi0 := eq_true hi0
      replace hi := eq_true hi
      go_wp2_with fail
      refine (Q.sourcetree_Name.calls _ true _ (HT.out.below (below_alloc HB.out _)) HNi.out).mono ?_
      rintro e w5 ⟨rfl, hb5⟩
      have HB5 := Aside0.mk (below_step (below_alloc HB.out _) hb5)
      have HK5 := Aside0.mk (blk_below (blk_alloc HK.out _) hb5)
      have HO5 := Aside0.mk (pw_own_below (pw_own_below HO.out (below_alloc (Below.refl _ _) _)) hb5)
      clear hb5 HK HO HB z0 z1 z2 z3 z4 z5 z6 z7 z8 z9 z10 z11 x3
      have y0 := (own_at HO5.out i (of_eq_true hi0) (of_eq_true hi)).1
      have y1 := (own_at HO5.out i (of_eq_true hi0) (of_eq_true hi)).2
      have HS5 := Aside0.mk (own_store HO5.out i i)
      go_wp2_with fail
      go_roundg k1
      case measure => omega
      case rel =>
        refine ⟨i + 1, (by rw [HW.out]), HN1, ⟨blk_far HK5.out (by have := HBO.out; show w.heap.size ≠ bo; omega) _⟩, ⟨?_⟩, ⟨below_set HB5.out (by have := HBO.out; show w.heap.size ≤ bo; omega)⟩⟩
        have h := HS5.out.1
        have e : (ordL l.length i.toNat).set i.toNat i = ordL l.length (i + 1).toNat := by
          have h2 := ordL_set l.length i.toNat HS1.out
          have hii : ((i.toNat : Nat) : Int) = i := Int.toNat_of_nonneg (of_eq_true hi0)
          rw [hii] at h2
          rw [h2]
          congr 1
          have := of_eq_true hi0
          omega
        rw [e] at h
        exact h
end Go.Proofs.YtabcnplfkfdeaaaGreatDoor
