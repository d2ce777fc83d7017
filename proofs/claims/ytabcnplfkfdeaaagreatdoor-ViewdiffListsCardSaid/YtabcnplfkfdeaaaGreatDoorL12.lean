/- Walks and plain laws that the claim stands on (part 12). -/
import Derived.Test.YtabcnplfkfdeaaaGreatDoorL11
import Derived.Lib.LazyBuf
namespace Go.Proofs.YtabcnplfkfdeaaaGreatDoor
open Go.RowKit Go.Proofs.YtabcnplfkfdeaaaGreatDoorW.PrintWords Go.Proofs.YtabcnplfkfdeaaaGreatDoorW.PrintLast Go.Proofs.YtabcnplfkfdeaaaGreatDoorW.PrintMore
set_option linter.unusedVariables false
set_option linter.unusedSimpArgs false
set_option maxRecDepth 100000 in
set_option maxHeartbeats 8000000 in
theorem clone_calls (l : List S44) (A : Option Addr) (c : Nat) (w : World) (hC : Kd.C k44 w A l.length l) (hc : l.length ≤ c) (hl : l.length ≤ 4398046511104) : Calls Tryz.prog 104 #[.slice A l.length c] w fun e w' => ∃ v0, e = .returned v0 ∧ Kd.R k44 44 w' w.heap.size (fun _ => True) v0 l ∧ Below w.heap.size w w' := by
  have HC := Aside0.mk hC
  have HL := Aside0.mk hl
  clear hC hl
  cases A with
  | none =>
    have hnil : l = [] := by
      cases l with
      | nil => rfl
      | cons x xs =>
        obtain ⟨ad, eA, _⟩ := at_T44 HC.out 0 (by omega) (by simp)
        cases eA
    subst hnil
    have heq := fun w => run_eql_slice_nil (P := Tryz.prog) w 23 44 none 0 c Tryz.underlying23
    go_enter Tryz.func104, Tryz.ntmps104
    go_wp2
    go_ret
    exact ⟨_, rfl, Kd.R_nil _ _ _ _ _, Below.refl _ _⟩
  | some ad =>
    have heq := fun w => run_eql_slice_nil (P := Tryz.prog) w 23 44 (some ad) l.length c Tryz.underlying23
    have hinfo : (Tryz.prog.info? 44).map (fun i => (i.zero, i.size, i.bytes)) = some (some (.agg #[.string ⟨#[]⟩, .string ⟨#[]⟩]), 2, 32) := by kernel_rfl
    go_enter Tryz.func104, Tryz.ntmps104
    go_wp2_with (first
      | ((with_reducible refine gate_dst (N := 5) rfl ?_); refine Kd.R_lit k44 w.heap.size 44 rfl (N := 5) ?hd (xs := []) (inner := []) (ok := fun _ => True) (okp := fun _ => True) ?hr (Reps.none _ _) (fun _ hk => hk) trivial (Below.refl _ _) (Nat.le_refl _) (by simp) ?_; (case hd => rfl); (case hr => first | (go_simp; done) | (go_simp; rfl)); intro v5 w5 hr5 hb5 hg5 hat5; have HR5 := Aside0.mk hr5; have HB5 := Aside0.mk hb5; clear hr5 hb5 hg5 hat5)
      | ((with_reducible refine gate_dst (N := 7) rfl ?_); refine Kd.R_append_rows k44 (Rr := k44.K w5) (w0 := w) w.heap.size rfl (.tmp 5) (.tmp 6) 23 44 (.agg #[.string ⟨#[]⟩, .string ⟨#[]⟩]) 32 rfl Tryz.underlying23 hinfo rfl (by decide) (by decide) v5 [] l (some ad) l.length c (fun _ => True) (fun _ => False) rfl rfl HR5.out (Kd.C_below HC.out HB5.out) (fun x cs hK => by rw [k44_open hK]; exact k44_mkM _ _ _ x) (fun _ hk => hk.elim) (fun _ _ => trivial) HB5.out HB5.out.size (by have := HL.out; simp; omega) ?_; intro v7 w7 hr7 hb7 hg7 hat7; have HR7 := Aside0.mk hr7; have HB7 := Aside0.mk hb7; clear hr7 hb7 hg7 hat7))
    go_ret
    exact ⟨_, rfl, HR7.out, HB7.out⟩
end Go.Proofs.YtabcnplfkfdeaaaGreatDoor
