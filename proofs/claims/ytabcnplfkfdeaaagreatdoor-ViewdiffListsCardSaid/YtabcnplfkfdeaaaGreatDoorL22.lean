/- Walks and plain laws that the claim stands on (part 22). -/
import Derived.Test.YtabcnplfkfdeaaaGreatDoorL21
import Derived.Deep.DeepMust
namespace Go.Proofs.YtabcnplfkfdeaaaGreatDoor
open Go.RowKit Go.Proofs.YtabcnplfkfdeaaaGreatDoorW.PrintWords Go.Proofs.YtabcnplfkfdeaaaGreatDoorW.PrintLast Go.Proofs.YtabcnplfkfdeaaaGreatDoorW.PrintMore
set_option linter.unusedVariables false
set_option linter.unusedSimpArgs false
def exFile (n d : ByteArray) : S25 := ⟨n, 1, d, ⟨#[]⟩, 0, 0, 0, 315532800, 0, 0, [], []⟩
def exTop (l : List S25) : S25 := ⟨⟨#[]⟩, 0, ⟨#[]⟩, ⟨#[]⟩, 0, 0, 0, 315532800, 0, 0, l, []⟩
def exA : S25 := exTop [exFile ⟨#[97]⟩ ⟨#[120]⟩, exFile ⟨#[99]⟩ ⟨#[]⟩]
def exB : S25 := exTop [exFile ⟨#[97]⟩ ⟨#[121]⟩, exFile ⟨#[98]⟩ ⟨#[]⟩]
theorem sizeNd : (Tryz.prog.info? 25).map (·.size) = some 12 := by kernel_rfl
theorem file_enters (args : Array Value) (w : World) : (callFunc 58 args).run Tryz.prog w = .ok (.enter 58 args) w :=
  enters_of Tryz.func58 (by kernel_rfl) rfl args w
theorem file_calls (n d : ByteArray) (w : World) : Calls Tryz.prog 58 #[.string n, .string d] w fun e w' => e = .returned (.agg #[.string n, .int .i64 1, .string d, .string ⟨#[]⟩, .int .i64 0, .int .i64 0, .int .i64 0, .int .i64 315532800, .int .i64 0, .int .i64 0, .slice none 0 0, .slice none 0 0]) ∧ Below w.heap.size w w' := by
  have hu25 := Tryz.underlying25
  go_enter Tryz.func58, Tryz.ntmps58
  go_wp2
  (try simp only [Exit.inBlock, Exit.then])
  refine bodyPost_ret (results_cell_row rfl _ _ w.heap.size _ _ _ _ rfl (heap_alloc_new _ _) hu25 rfl sizeNd) rfl ?_
  exact ⟨by first | rfl | (simp; done), below_alloc (Below.refl _ _) _⟩
theorem setRow_same {w : World} {g : Nat} {old cs : Array Value} {t : TypeId} {fr : Nat × Nat} (h : w.heap[g]? = some (.cells old t fr)) : (w.setRow g cs).heap[g]? = some (.cells cs t fr) := by
  simp [World.setRow, Array.getElem?_modify, h]
theorem setRow_other {w : World} {g g' : Nat} {cs : Array Value} (h : g ≠ g') : (w.setRow g cs).heap[g']? = w.heap[g']? := by
  simp only [World.setRow, Array.getElem?_modify]
  rw [if_neg h]
def fileCells (n d : ByteArray) : Array Value := #[.string n, .int .i64 1, .string d, .string ⟨#[]⟩, .int .i64 0, .int .i64 0, .int .i64 0, .int .i64 315532800, .int .i64 0, .int .i64 0, .slice none 0 0, .slice none 0 0]
def topCells (g : Nat) : Array Value := #[.string ⟨#[]⟩, .int .i64 0, .string ⟨#[]⟩, .string ⟨#[]⟩, .int .i64 0, .int .i64 0, .int .i64 0, .int .i64 315532800, .int .i64 0, .int .i64 0, .slice (some ⟨g, 0, none⟩) 2 2, .slice none 0 0]
def zeroCells : Array Value := #[.string ⟨#[]⟩, .int .i64 0, .string ⟨#[]⟩, .string ⟨#[]⟩, .int .i64 0, .int .i64 0, .int .i64 0, .int .i64 0, .int .i64 0, .int .i64 0, .slice none 0 0, .slice none 0 0]
set_option maxRecDepth 100000 in
set_option maxHeartbeats 4000000 in
theorem example_calls (w : World) : Calls Tryz.prog 38 #[] w fun e w' => ∃ g g', e = .returned (.tuple #[.agg (topCells g), .agg (topCells g')]) ∧ Below w.heap.size w w' ∧ w'.heap[g]? = some (.cells (fileCells ⟨#[97]⟩ ⟨#[120]⟩ ++ fileCells ⟨#[99]⟩ ⟨#[]⟩) 25 (0, 0)) ∧ w'.heap[g']? = some (.cells (fileCells ⟨#[97]⟩ ⟨#[121]⟩ ++ fileCells ⟨#[98]⟩ ⟨#[]⟩) 25 (0, 0)) := by
  have hu25 := Tryz.underlying25
  have heg := file_enters
  go_enter Tryz.func38, Tryz.ntmps38
  go_wp2_with fail
  obtain ⟨w2, h2⟩ : ∃ w2, w2 = (w.alloc (.cells zeroCells 25)).alloc (.cells zeroCells 25) := ⟨_, rfl⟩
  have hb2 : Below w.heap.size w w2 := by rw [h2]; exact below_alloc (below_alloc (Below.refl _ _) _) _
  have b0 : w2.heap[w.heap.size]? = some (.cells zeroCells 25 (0, 0)) := by rw [h2]; exact blk_alloc (heap_alloc_new w _) _
  have b1 : w2.heap[w.heap.size + 1]? = some (.cells zeroCells 25 (0, 0)) := by
    have := heap_alloc_new (w.alloc (.cells zeroCells 25)) (.cells zeroCells 25)
    rw [h2]
    simpa using this
  unfold zeroCells at h2
  rw [← h2]
  clear h2
  refine (file_calls ⟨#[97]⟩ ⟨#[120]⟩ w2).mono ?_
  rintro e w3 ⟨rfl, hb⟩
  go_wp2_with fail
  refine (file_calls ⟨#[99]⟩ ⟨#[]⟩ w3).mono ?_
  rintro e w4 ⟨rfl, hb4⟩
  go_wp2_with fail
  have hrow : ∀ o : Obj, (w4.alloc o).heap[w4.heap.size]? = some o := fun o => heap_alloc_new w4 o
  obtain ⟨w5, h5⟩ : ∃ w5, w5 = w4.alloc (.cells (fileCells ⟨#[97]⟩ ⟨#[120]⟩ ++ fileCells ⟨#[99]⟩ ⟨#[]⟩) 25) := ⟨_, rfl⟩
  have hb5 : Below w4.heap.size w4 w5 := by rw [h5]; exact below_alloc (Below.refl _ _) _
  have r5 : w5.heap[w4.heap.size]? = some (.cells (fileCells ⟨#[97]⟩ ⟨#[120]⟩ ++ fileCells ⟨#[99]⟩ ⟨#[]⟩) 25 (0, 0)) := by rw [h5]; exact heap_alloc_new _ _
  simp only [fileCells, List.append_toArray, List.cons_append, List.nil_append] at h5
  rw [← h5]
  clear h5 hrow
  refine (file_calls ⟨#[97]⟩ ⟨#[121]⟩ w5).mono ?_
  rintro e w6 ⟨rfl, hb6⟩
  go_wp2_with fail
  refine (file_calls ⟨#[98]⟩ ⟨#[]⟩ w6).mono ?_
  rintro e w7 ⟨rfl, hb7⟩
  have k7 : Kp (fun _ => False) w2 w7 := ((((Kp.of_below hb _).trans (Kp.of_below hb4 _)).trans (Kp.of_below hb5 _)).trans (Kp.of_below hb6 _)).trans (Kp.of_below hb7 _)
  have c0 := blk_kp b0 k7 (fun h => h)
  have c1 := blk_kp b1 k7 (fun h => h)
  go_wp2_with (first | ((with_reducible refine gate_store (t := 25) (p := 0) rfl ?_); go_must (refine wpList_store_row rfl 25 (.tmp 0) (.tmp 8) rfl w.heap.size _ rfl rfl 25 zeroCells (blk_alloc c0 _) sizeNd rfl (by simp [Value.oneCell']) ?_)) | ((with_reducible refine gate_store (t := 25) (p := 1) rfl ?_); go_must (refine wpList_store_row rfl 25 (.tmp 1) (.tmp 14) rfl (w.heap.size + 1) _ rfl rfl 25 zeroCells (by have hc := blk_alloc c1; simp only [World.setRow, Array.getElem?_modify]; rw [if_neg (by omega)]; exact hc _) sizeNd rfl (by simp [Value.oneCell']) ?_)))
  obtain ⟨w8, h8⟩ : ∃ w8, w8 = w7.alloc (.cells (fileCells ⟨#[97]⟩ ⟨#[121]⟩ ++ fileCells ⟨#[98]⟩ ⟨#[]⟩) 25) := ⟨_, rfl⟩
  have r8 : w8.heap[w7.heap.size]? = some (.cells (fileCells ⟨#[97]⟩ ⟨#[121]⟩ ++ fileCells ⟨#[98]⟩ ⟨#[]⟩) 25 (0, 0)) := by rw [h8]; exact heap_alloc_new _ _
  have e0 : w8.heap[w.heap.size]? = some (.cells zeroCells 25 (0, 0)) := by rw [h8]; exact blk_alloc c0 _
  have e1 : w8.heap[w.heap.size + 1]? = some (.cells zeroCells 25 (0, 0)) := by rw [h8]; exact blk_alloc c1 _
  have hb8 : Below w7.heap.size w7 w8 := by rw [h8]; exact below_alloc (Below.refl _ _) _
  have q5 := blk_kp r5 (((Kp.of_below hb6 (fun _ => False)).trans (Kp.of_below hb7 _)).trans (Kp.of_below hb8 _)) (fun h => h)
  have below_fin := below_step (below_step (below_step (below_step (below_step (below_step hb2 hb) hb4) hb5) hb6) hb7) hb8
  have s1 := hb.size
  have s2 := hb4.size
  have s3 := hb5.size
  have s4 := hb6.size
  have s5 := hb7.size
  have s6 : w.heap.size + 1 < w2.heap.size := by
    by_cases hh : w.heap.size + 1 < w2.heap.size
    · exact hh
    · rw [Array.getElem?_eq_none (by omega)] at b1; cases b1
  simp only [fileCells, List.append_toArray, List.cons_append, List.nil_append] at h8
  (try simp only [Exit.inBlock, Exit.then])
  rw [← h8]
  refine bodyPost_ret (results_cc rfl _ _ w.heap.size (w.heap.size + 1) 25 25 _ _ (0, 0) (0, 0) _ _ rfl ((setRow_other (by omega)).trans (setRow_same e0)) hu25 rfl sizeNd rfl (setRow_same ((setRow_other (by omega)).trans e1)) hu25 rfl sizeNd) rfl ?_
  refine ⟨w4.heap.size, w7.heap.size, rfl, ?_, ?_, ?_⟩
  · exact ⟨below_fin.os, below_fin.tape, below_fin.output, by simpa [World.setRow] using below_fin.size, fun k hk => ((setRow_other (by omega)).trans (setRow_other (by omega))).trans (below_fin.block k hk)⟩
  · exact ((setRow_other (by omega)).trans (setRow_other (by omega))).trans q5
  · exact ((setRow_other (by omega)).trans (setRow_other (by omega))).trans r8
end Go.Proofs.YtabcnplfkfdeaaaGreatDoor
