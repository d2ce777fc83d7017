/- Walks and plain laws that the claim stands on (part 5). -/
import Derived.Test.YtabcnplfkfdeaaaGreatDoorL3
import Derived.Test.YtabcnplfkfdeaaaGreatDoorL4
import Derived.Shelf.SlSortCmp.NoneTotal
namespace Go.Proofs.YtabcnplfkfdeaaaGreatDoor
open Go.RowKit Go.Proofs.YtabcnplfkfdeaaaGreatDoorW.PrintWords Go.Proofs.YtabcnplfkfdeaaaGreatDoorW.PrintLast
set_option linter.unusedVariables false
set_option linter.unusedSimpArgs false
def cmpN_ (l : List S25) (i j : Nat) : Int := Lib.compareBytes (rd_T25 l i).f0.data.toList (rd_T25 l j).f0.data.toList
def SortedN (l : List S25) : Prop := ∀ i j : Nat, i < l.length → j < l.length → (cmpN_ l i j < 0 ↔ i < j)
theorem lt_idx {l : List S25} (hs : SortedN l) (x y : Fin l.length) : ltOf (fun i j : Fin l.length => cmpN_ l i.val j.val) x y = decide (x.val < y.val) := by
  unfold ltOf
  exact decide_eq_decide.2 (hs x.val y.val x.isLt y.isLt)
theorem swo_idx {l : List S25} (hs : SortedN l) : Sort.SWO (ltOf (fun i j : Fin l.length => cmpN_ l i.val j.val)) where
  irrefl x := by rw [lt_idx hs]; simp
  trans x y z h1 h2 := by rw [lt_idx hs] at *; simp at *; omega
  ntrans x y z h1 h2 := by rw [lt_idx hs] at *; simp at *; omega
theorem tot_idx {l : List S25} (hs : SortedN l) (x y : Fin l.length) (h1 : ltOf (fun i j : Fin l.length => cmpN_ l i.val j.val) x y = false) (h2 : ltOf (fun i j : Fin l.length => cmpN_ l i.val j.val) y x = false) : x = y := by
  rw [lt_idx hs] at *
  simp at *
  omega
theorem sort_idx {l : List S25} (hs : SortedN l) : ((Array.ofFn (fun i : Fin l.length => i)).toList.mergeSort fun x y => !(ltOf (fun i j : Fin l.length => cmpN_ l i.val j.val)) y x).toArray = Array.ofFn (fun i : Fin l.length => i) := by
  have hp : ((Array.ofFn (fun i : Fin l.length => i)).toList).Pairwise (fun x y => (!(ltOf (fun i j : Fin l.length => cmpN_ l i.val j.val)) y x) = true) := by
    rw [Array.toList_ofFn, List.pairwise_iff_getElem]
    intro i j hi hj hij
    simp only [List.getElem_ofFn]
    rw [lt_idx hs]
    simp
    omega
  have e := List.Perm.eq_of_pairwise (le := fun x y => (!(ltOf (fun i j : Fin l.length => cmpN_ l i.val j.val)) y x) = true) (fun a b _ _ h1 h2 => by
      simp only [Bool.not_eq_true'] at h1 h2
      exact tot_idx hs a b h2 h1) hp (List.pairwise_mergeSort (fun a b c h1 h2 => by
      simp only [lt_idx hs, Bool.not_eq_true', decide_eq_false_iff_not] at *
      omega) (fun a b => by
      simp only [lt_idx hs, Bool.or_eq_true, Bool.not_eq_true', decide_eq_false_iff_not]
      omega) _) (List.mergeSort_perm _ _).symm
  rw [← e]
theorem below_grow_ahead (w : World) (n : Nat) (os : Array Obj) : Below w.heap.size w (Sort.grow (Sort.ahead w n) os) :=
  ⟨rfl, rfl, rfl, by rw [Sort.size_grow]; exact Nat.le_add_right _ _, fun k hk => Sort.heap_grow_old _ _ (by exact hk)⟩
theorem sortWorld_other {α : Type} [Inhabited α] (enc : α → Value) (w : World) (blk off m : Nat) (dk : Array α) (os : Array Obj) (k : Nat) (hk : k < w.heap.size) (hne : k ≠ blk) : (sortWorld enc w blk off m dk os).heap[k]? = w.heap[k]? := by
  unfold sortWorld
  rw [Sort.heap_grow_old _ _ (by rw [Sort.size_putRow]; exact hk)]
  simp only [Sort.putRow, Sort.mapBlock, Array.getElem?_modify]
  rw [if_neg (fun e => hne e.symm)]
  rfl
theorem cell_heap {w w' : World} {a : Addr} (h : w'.heap[a.block]? = w.heap[a.block]?) : w'.cell? a = w.cell? a := by simp only [World.cell?, h]
set_option maxHeartbeats 2000000 in
set_option maxRecDepth 100000 in
theorem names1_calls (l : List S25) (A : Option Addr) (c b3 : Nat) (i j : Int) (hi0 : 0 ≤ i) (hi : i < l.length) (hj0 : 0 ≤ j) (hj : j < l.length) (W : World) (hbox : W.heap[b3]? = some (.cells #[.slice A l.length c] 22 (0, 0)))
    (hk : ∀ i : Int, 0 ≤ i → i < l.length → ∃ ad, A = some ad ∧ W.cell? (ad.add (i.toNat * 12)) = some (.string (rd_T25 l i).f0)) :
    Calls Tryz.prog 124 #[.int .i64 i, .int .i64 j, .pointer (some ⟨b3, 0, none⟩)] W fun e w' => e = .returned (.int .i64 (cmpN_ l i.toNat j.toNat)) ∧ ∃ q, w' = W.drewN q := by
  obtain ⟨ad, e1, hc1⟩ := hk i hi0 hi
  obtain ⟨ad2, e2, hc2⟩ := hk j hj0 hj
  subst e1
  cases e2
  have hb : W.cell? ⟨b3, 0, none⟩ = some (.slice (some ad) l.length c) := (blk_cell hbox 0).trans rfl
  have hu25 := Tryz.underlying25
  have hcon := fun W' => Tryz.strings_Compare (rd_T25 l i).f0 (rd_T25 l j).f0 W'
  have hr : cmpN_ l i.toNat j.toNat = Lib.compareBytes (rd_T25 l i).f0.data.toList (rd_T25 l j).f0.data.toList := by
    unfold cmpN_
    rw [Int.toNat_of_nonneg hi0, Int.toNat_of_nonneg hj0]
  rw [hr]
  clear hr hk hbox
  generalize Lib.compareBytes (rd_T25 l i).f0.data.toList (rd_T25 l j).f0.data.toList = r at hcon ⊢
  replace hi0 := eq_true hi0
  replace hi := eq_true hi
  replace hj0 := eq_true hj0
  replace hj := eq_true hj
  go_enter Tryz.func124, Tryz.ntmps124
  go_wp2_with fail
  go_quiet (first | (go_at_call 110; refine Calls.quiet_of_same (hcon _)))
  go_wp2
  go_ret
  exact ⟨rfl, nq, rfl⟩
def idL (n : Nat) : List Int := (List.range n).map Int.ofNat
theorem rd_idL (n j : Nat) (h : j < n) : rd (idL n) j = j := by
  unfold rd idL
  simp [List.getD_eq_getElem?_getD, List.getElem?_range h]
theorem sortInts_calls (l : List S25) (A : Option Addr) (c b3 bo : Nat) (w W : World) (hC : Kd.C k25 w A l.length l) (hb : Below w.heap.size w W) (hs : SortedN l)
    (hbox : W.heap[b3]? = some (.cells #[.slice A l.length c] 22 (0, 0))) (hne : b3 ≠ bo) (hbo : w.heap.size ≤ bo)
    (hsz : l.length < 4611686018427387904) (own : W.ownsRow w.heap.size 3 1 (.slice (some ⟨bo, 0, none⟩) l.length l.length) l.length (nums .i64 (idL l.length))) :
    Calls Tryz.prog 123 #[.slice (some ⟨bo, 0, none⟩) l.length l.length, .func (.func 124) #[] #[.pointer (some ⟨b3, 0, none⟩)]] W fun e w' => e = .returned (.tuple #[]) ∧ Below W.heap.size W w' := by
  have hmax := Kd.C_max hC
  cases l with
  | nil => exact (AnyF.slices_SortFunc_none { Tryz.sortInts with } (some ⟨bo, 0, none⟩) 0 _ W).mono fun e w' ⟨he, hw⟩ => ⟨he, by rw [hw]; exact Below.refl _ _⟩
  | cons x xs =>
    generalize hl : x :: xs = l at *
    have hpos : 0 < l.length := by rw [← hl]; simp
    haveI : Inhabited (Fin l.length) := ⟨⟨0, hpos⟩⟩
    have hlt : bo < W.heap.size := own_lt own bo rfl
    have hH : Sort.Holds (fun i : Fin l.length => Value.int .i64 (i.val : Int)) W bo 0 (Array.ofFn (fun i : Fin l.length => i)) := by
      intro j hj
      rw [Array.size_ofFn] at hj
      have h := own_at own (j : Int) (by omega) (by omega)
      rw [rd_idL _ _ hj] at h
      have e : (Array.ofFn (fun i : Fin l.length => i))[j]! = ⟨j, hj⟩ := by
        rw [getElem!_pos _ j (by rw [Array.size_ofFn]; exact hj), Array.getElem_ofFn]
      rw [e, Nat.zero_add]
      exact h
    have hcmp : CmpLays1 Tryz.prog 124 #[.pointer (some ⟨b3, 0, none⟩)] (fun i : Fin l.length => Value.int .i64 (i.val : Int)) (fun i j => cmpN_ l i.val j.val) bo 0 (Array.ofFn (fun i : Fin l.length => i)).size W := by
      intro m os dk hdk a b
      have hb3 : b3 < W.heap.size := blk_lt hbox
      have h := names1_calls l A c b3 (a.val : Int) (b.val : Int) (by omega) (by have := a.isLt; omega) (by omega) (by have := b.isLt; omega) (sortWorld (fun i : Fin l.length => Value.int .i64 (i.val : Int)) W bo 0 m dk os) ((sortWorld_other _ W bo 0 m dk os b3 hb3 hne).trans hbox) (by
        intro i h0 h1
        obtain ⟨ad, _, _, _, _, eA, hc, _⟩ := at_T25 hC i h0 h1
        have hlt0 := World.block_lt_of_cell? w _ hc
        refine ⟨ad, eA, ?_⟩
        rw [cell_heap (sortWorld_other _ W bo 0 m dk os _ (Nat.lt_of_lt_of_le hlt0 hb.size) (by omega))]
        exact pw_cell_below hb hc)
      refine h.mono ?_
      rintro e w' ⟨he, q, hw⟩
      exact ⟨he, q, #[], by rw [hw, Sort.grow_empty]⟩
    have h := Any.slices_SortFunc_total Tryz.sortInts (fun i : Fin l.length => Value.int .i64 (i.val : Int)) (fun _ => rfl) (fun i j => cmpN_ l i.val j.val) (swo_idx hs) 124 #[.pointer (some ⟨b3, 0, none⟩)] bo 0 l.length (Array.ofFn (fun i : Fin l.length => i)) W (enters_of Tryz.func124 (by kernel_rfl) rfl) hcmp hH hlt (by rw [Array.size_ofFn]; exact hsz) (tot_idx hs)
    rw [sort_idx hs, Array.size_ofFn] at h
    refine Calls.mono (show Calls Tryz.prog 123 _ _ _ from h) ?_
    rintro e w' ⟨he, n, os, hw⟩
    refine ⟨he, ?_⟩
    rw [hw]
    unfold sortWorld
    rw [Sort.putRow_self _ _ _ _ _ (Sort.holds_ahead _ W n bo 0 _ hH)]
    exact below_grow_ahead W n os
set_option maxHeartbeats 2000000 in
set_option maxRecDepth 100000 in
theorem show1_calls (x y : S25) (A : Option Addr) (c : Nat) (B : Option Addr) (d : Nat) (A' : Option Addr) (c' : Nat) (B' : Option Addr) (d' : Nat) (W : World) :
    Calls Tryz.prog 109 #[.agg #[.string x.f0, .int .i64 x.f1, .string x.f2, .string x.f3, .int .i64 x.f4, .int .i64 x.f5, .int .i64 x.f6, .int .i64 x.f7, .int .i64 x.f8, .int .i64 x.f9, .slice A x.f10.length c, .slice B x.f11.length d], .agg #[.string y.f0, .int .i64 y.f1, .string y.f2, .string y.f3, .int .i64 y.f4, .int .i64 y.f5, .int .i64 y.f6, .int .i64 y.f7, .int .i64 y.f8, .int .i64 y.f9, .slice A' y.f10.length c', .slice B' y.f11.length d']] W fun e w' => e = .returned (.int .i64 (Lib.compareBytes x.f0.data.toList y.f0.data.toList)) ∧ ∃ q os', w' = Sort.grow (W.drewN q) os' := by
  have hu25 := Tryz.underlying25
  have hcon := fun W' => Tryz.strings_Compare x.f0 y.f0 W'
  generalize Lib.compareBytes x.f0.data.toList y.f0.data.toList = r at hcon ⊢
  go_enter Tryz.func109, Tryz.ntmps109
  go_wp2_with (go_at_call 110; refine (hcon _).mono ?_; rintro e w' ⟨rfl, rfl⟩)
  go_ret
  exact ⟨rfl, 0, _, by rw [Sort.alloc_eq_grow, Sort.alloc_eq_grow, Sort.grow_grow]; rfl⟩
theorem own_frozen {w : World} {base n size g cap : Nat} {e : TypeId} {xs : List Value} (h : w.ownsRow base e size (.slice (some ⟨g, 0, none⟩) n cap) n xs) (i : Nat) : w.frozen? ⟨g, i, none⟩ = false := by
  rcases h.2 with ⟨h', _⟩ | ⟨g', cap', cur, h', _, hh, _⟩
  · cases h'
  · have : g = g' := by injection h' with h'; injection h' with h'; injection h' with h'
    subst this
    exact blk_frozen hh i
theorem sortNodes_calls (acc : List S25) (v : Value) (W : World) (base : Nat) (ok : Nat → Prop) (hR : Kd.R k25 25 W base ok v acc) (hs : SortedN acc) (hsz : acc.length < 4611686018427387904) :
    Calls Tryz.prog 108 #[v, .func (.func 109) #[] #[]] W fun e w' => e = .returned (.tuple #[]) ∧ Below W.heap.size W w' := by
  obtain ⟨_, inner, own, reps⟩ := hR
  cases acc with
  | nil =>
    obtain ⟨A, c, rfl⟩ := own_slice own
    exact (AnyF.slices_SortFunc_none Tryz.sortNodes A c _ W).mono fun e w' ⟨he, hw⟩ => ⟨he, by rw [hw]; exact Below.refl _ _⟩
  | cons x xs =>
    generalize hl : x :: xs = l at *
    have hpos : 0 < l.length := by rw [← hl]; simp
    haveI : Inhabited (Fin l.length) := ⟨⟨0, hpos⟩⟩
    obtain ⟨g, cap, rfl, hbg, hlt⟩ := own.form hpos
    have hil : inner.length = l.length * 12 := reps.1
    have hshape : ∀ i : Fin l.length, ∃ A c B d, (inner.drop (i.val * 12)).take 12 = (#[.string (rd_T25 l i.val).f0, .int .i64 (rd_T25 l i.val).f1, .string (rd_T25 l i.val).f2, .string (rd_T25 l i.val).f3, .int .i64 (rd_T25 l i.val).f4, .int .i64 (rd_T25 l i.val).f5, .int .i64 (rd_T25 l i.val).f6, .int .i64 (rd_T25 l i.val).f7, .int .i64 (rd_T25 l i.val).f8, .int .i64 (rd_T25 l i.val).f9, .slice A (rd_T25 l i.val).f10.length c, .slice B (rd_T25 l i.val).f11.length d] : Array Value).toList := by
      intro i
      have hx := reps.2 i.val l[i.val] (List.getElem?_eq_getElem i.isLt)
      have e : rd_T25 l (i.val : Int) = l[i.val] := by
        unfold rd_T25
        simp [List.getD_eq_getElem?_getD, List.getElem?_eq_getElem i.isLt]
      obtain ⟨v10, v11, hc, r10, r11⟩ := k25_openM hx
      obtain ⟨A, c, e10⟩ := Kd.R_slice r10
      obtain ⟨B, d, e11⟩ := Kd.R_slice r11
      refine ⟨A, c, B, d, ?_⟩
      rw [e, ← e10, ← e11]
      exact hc
    have hk : ∀ i : Fin l.length, ((inner.drop (i.val * 12)).take 12).length = 12 := by
      intro i
      obtain ⟨A, c, B, d, h⟩ := hshape i
      rw [h]
      rfl
    have h1 : ∀ i : Fin l.length, ∀ u ∈ (inner.drop (i.val * 12)).take 12, u.oneCell' = true := by
      intro i u hu
      obtain ⟨A, c, B, d, h⟩ := hshape i
      rw [h] at hu
      simp only [List.mem_cons, List.not_mem_nil, or_false] at hu
      rcases hu with rfl | rfl | rfl | rfl | rfl | rfl | rfl | rfl | rfl | rfl | rfl | rfl <;> rfl
    have hget : ∀ j, (hj : j < l.length) → (Array.ofFn (fun i : Fin l.length => i))[j]! = ⟨j, hj⟩ := by
      intro j hj
      rw [getElem!_pos _ j (by rw [Array.size_ofFn]; exact hj), Array.getElem_ofFn]
    have hH : Sort.HoldsK (fun i : Fin l.length => (inner.drop (i.val * 12)).take 12) 12 W g 0 (Array.ofFn (fun i : Fin l.length => i)) := by
      intro t ht
      rw [Sort.size_flatK, Array.size_ofFn] at ht
      have hd : t / 12 < l.length := Nat.div_lt_of_lt_mul (by omega)
      refine ⟨?_, by rw [Nat.zero_add]; exact own_frozen own t⟩
      rw [Sort.get_flatK _ _ _ t (by rw [Array.size_ofFn]; exact ht), hget _ hd, Nat.zero_add]
      have hti : t < inner.length := by omega
      have hc := own.cells (g := g) rfl t inner[t] (List.getElem?_eq_getElem hti)
      rw [add_plain] at hc
      rw [hc]
      have e : ((inner.drop ((⟨t / 12, hd⟩ : Fin l.length).val * 12)).take 12)[t % 12]! = inner[t] := by
        have hm : t % 12 < 12 := Nat.mod_lt _ (by decide)
        rw [getElem!_pos _ _ (by rw [hk]; exact hm)]
        simp only [List.getElem_take, List.getElem_drop]
        congr 1
        omega
      exact (congrArg some e).symm
    have hcmp : CmpLays Tryz.prog 109 #[] (fun i : Fin l.length => (inner.drop (i.val * 12)).take 12) 12 (fun i j => cmpN_ l i.val j.val) g 0 (Array.ofFn (fun i : Fin l.length => i)).size W := by
      intro m os dk hdk a b
      obtain ⟨A, c, B, d, ha⟩ := hshape a
      obtain ⟨A', c', B', d', hb⟩ := hshape b
      have h := show1_calls (rd_T25 l a.val) (rd_T25 l b.val) A c B d A' c' B' d' (sortWorldK (fun i : Fin l.length => (inner.drop (i.val * 12)).take 12) 12 W g 0 m dk os)
      show Calls _ _ (#[Value.agg ((inner.drop (a.val * 12)).take 12).toArray, Value.agg ((inner.drop (b.val * 12)).take 12).toArray] ++ #[]) _ _
      rw [ha, hb]
      exact h
    have h := AnyQ.slices_SortFunc_total Tryz.sortNodes 12 Tryz.isAgg25 Tryz.sizeOf25 (fun i : Fin l.length => (inner.drop (i.val * 12)).take 12) hk h1 (fun i j => cmpN_ l i.val j.val) (swo_idx hs) 109 #[] g 0 cap (Array.ofFn (fun i : Fin l.length => i)) W (enters_of Tryz.func109 (by kernel_rfl) rfl) hcmp hH hlt (by rw [Array.size_ofFn]; exact hsz) (tot_idx hs)
    rw [sort_idx hs, Array.size_ofFn] at h
    refine Calls.mono (show Calls Tryz.prog 108 _ _ _ from h) ?_
    rintro e w' ⟨he, n, os, hw⟩
    refine ⟨he, ?_⟩
    rw [hw]
    unfold sortWorldK
    rw [Sort.putRowK_self _ _ _ _ _ _ (Sort.holds_ahead id W n g 0 _ hH)]
    exact below_grow_ahead W n os
end Go.Proofs.YtabcnplfkfdeaaaGreatDoor
