/- Walks and plain laws that the claim stands on (part 14). -/
import Derived.Test.YtabcnplfkfdeaaaGreatDoorL13
namespace Go.Proofs.YtabcnplfkfdeaaaGreatDoor
open Go.RowKit Go.Proofs.YtabcnplfkfdeaaaGreatDoorW.PrintWords Go.Proofs.YtabcnplfkfdeaaaGreatDoorW.PrintLast Go.Proofs.YtabcnplfkfdeaaaGreatDoorW.PrintMore
set_option linter.unusedVariables false
set_option linter.unusedSimpArgs false
def countStep (s : Int) (_x : S25) (_path : ByteArray) (_level : Int) : Option (Bool × Int) := some (true, wrap64 (s + 1))
def IsVar (g : Nat) (t : TypeId) (v : Value) (w : World) : Prop := w.heap[g]? = some (.cells #[v] t (0, 0))
theorem IsVar.keep {g : Nat} {t : TypeId} {v : Value} {w w' : World} (h : IsVar g t v w) (hk : Kp (fun _ => False) w w') : IsVar g t v w' := blk_kp h hk (fun h => h)
theorem IsVar.cell {g : Nat} {t : TypeId} {v : Value} {w : World} (h : IsVar g t v w) : w.cell? ⟨g, 0, none⟩ = some v := (blk_cell h 0).trans rfl
theorem IsVar.free {g : Nat} {t : TypeId} {v : Value} {w : World} (h : IsVar g t v w) : w.frozen? ⟨g, 0, none⟩ = false := blk_frozen h 0
theorem IsVar.set {g : Nat} {t : TypeId} {v : Value} {w : World} (h : IsVar g t v w) (u : Value) : IsVar g t u (w.setCell ⟨g, 0, none⟩ u) := by simpa [IsVar] using blk_set h 0 u
theorem IsVar.lt {g : Nat} {t : TypeId} {v : Value} {w : World} (h : IsVar g t v w) : g < w.heap.size := blk_lt h
theorem IsVar.new (w : World) (t : TypeId) (v : Value) : IsVar w.heap.size t v (w.alloc (.cells #[v] t)) := heap_alloc_new w _
set_option maxRecDepth 100000 in
set_option maxHeartbeats 4000000 in
theorem count_visits (g : Nat) (w0 : World) (hg : w0.heap.size ≤ g) : Visits 98 #[.pointer (some ⟨g, 0, none⟩)] (· = g) w0 (fun s w => IsVar g 3 (.int .i64 s) w) countStep where
  enters := enters_of Tryz.func98 (by kernel_rfl) rfl
  new := by rintro k rfl; exact hg
  keep := fun s W W' h hk => h.keep hk
  call := by
    intro s x path level r A c' B d W hB hI hr10 hc10 hr11 hc11 h
    injection h with h
    subst h
    clear hr10 hc10 hr11 hc11
    have HI := Aside0.mk hI
    have hc : W.cell? ⟨g, 0, none⟩ = some (.int .i64 s) := hI.cell
    have hf : W.frozen? ⟨g, 0, none⟩ = false := hI.free
    have hlt := hI.lt
    clear hI
    have hu25 := Tryz.underlying25
    simp only [List.append_toArray, List.cons_append, List.nil_append]
    go_enter Tryz.func98, Tryz.ntmps98
    go_wp2
    go_ret
    exact ⟨rfl, (HI.out.set _).keep ((Kp.refl _ _).alloc _), ((Kp.refl (· = g) W).setCell (p := ⟨g, 0, none⟩) (.inl rfl) _).alloc _⟩
def countOf (x : S25) : Option Int := (wk countStep 0 x ⟨#[]⟩ 1).map (·.2)
set_option maxRecDepth 100000 in
set_option maxHeartbeats 4000000 in
theorem count_calls (x : S25) (r : Int) (A : Option Addr) (c' : Nat) (B : Option Addr) (d : Nat) (w : World) (hr10 : Kd.C k25 w A x.f10.length x.f10) (hc10 : x.f10.length ≤ c') (hr11 : Kd.C k44 w B x.f11.length x.f11) (hc11 : x.f11.length ≤ d) (h : countOf x = some r) :
    Calls Tryz.prog 75 #[.agg #[.string x.f0, .int .i64 x.f1, .string x.f2, .string x.f3, .int .i64 x.f4, .int .i64 x.f5, .int .i64 x.f6, .int .i64 x.f7, .int .i64 x.f8, .int .i64 x.f9, .slice A x.f10.length c', .slice B x.f11.length d]] w fun e w' => e = .returned (.int .i64 r) ∧ Below w.heap.size w w' := by
  obtain ⟨⟨b1, s1⟩, hw, rfl⟩ := Option.map_eq_some_iff.mp h
  have HR10 := Aside0.mk hr10
  have HR11 := Aside0.mk hr11
  have HC10 := Aside0.mk hc10
  have HC11 := Aside0.mk hc11
  have HW := Aside0.mk hw
  clear hr10 hr11 hc10 hc11 h hw
  have hu25 := Tryz.underlying25
  go_enter Tryz.func75, Tryz.ntmps75
  go_wp2_with fail
  obtain ⟨w2, h2⟩ : ∃ w2, w2 = (w.alloc (.cells #[.string x.f0, .int .i64 x.f1, .string x.f2, .string x.f3, .int .i64 x.f4, .int .i64 x.f5, .int .i64 x.f6, .int .i64 x.f7, .int .i64 x.f8, .int .i64 x.f9, .slice A x.f10.length c', .slice B x.f11.length d] 25)).alloc (.cells #[.int .i64 0] 3) := ⟨_, rfl⟩
  have hv : IsVar (w.heap.size + 1) 3 (.int .i64 0) w2 := by
    rw [h2]
    have := IsVar.new (w.alloc (.cells #[.string x.f0, .int .i64 x.f1, .string x.f2, .string x.f3, .int .i64 x.f4, .int .i64 x.f5, .int .i64 x.f6, .int .i64 x.f7, .int .i64 x.f8, .int .i64 x.f9, .slice A x.f10.length c', .slice B x.f11.length d] 25)) 3 (.int .i64 0)
    simpa using this
  have HB2 := Aside0.mk (show Below w.heap.size w w2 by rw [h2]; exact below_alloc (below_alloc (Below.refl _ _) _) _)
  rw [← h2]
  clear h2
  have HV := Aside0.mk hv
  clear hv
  refine (walk_calls 98 #[.pointer (some ⟨w.heap.size + 1, 0, none⟩)] (· = w.heap.size + 1) w (fun s W => IsVar (w.heap.size + 1) 3 (.int .i64 s) W) countStep ⟨count_visits _ w (by omega)⟩ _ 0 x ⟨#[]⟩ 1 (b1, s1) A c' B d w2 (Nat.lt_succ_self _) (fun k hk => by subst hk; exact HV.out.lt) HB2.out HV.out HR10.out HC10.out HR11.out HC11.out HW.out).mono ?_
  rintro e w3 ⟨rfl, hv, hk⟩
  have HB3 := Aside0.mk (Kp.after HB2.out hk (fun k hk => by omega))
  have hc := hv.cell
  clear hv hk HV HB2
  go_wp2
  go_ret
  exact ⟨rfl, HB3.out⟩
end Go.Proofs.YtabcnplfkfdeaaaGreatDoor
