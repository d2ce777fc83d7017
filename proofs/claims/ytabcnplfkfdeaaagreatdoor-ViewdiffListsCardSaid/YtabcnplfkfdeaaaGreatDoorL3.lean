/- Walks and plain laws that the claim stands on (part 3). -/
import Derived.Test.YtabcnplfkfdeaaaGreatDoorL1
import Derived.Test.YtabcnplfkfdeaaaGreatDoorL2
import Derived.Lib.LaidU8
import Derived.Lib.AppendIntMem
import Derived.Lib.ReplaceLaws
namespace Go.Proofs.YtabcnplfkfdeaaaGreatDoor
open Go.RowKit Go.Proofs.YtabcnplfkfdeaaaGreatDoorW.PrintWords Go.Proofs.YtabcnplfkfdeaaaGreatDoorW.PrintLast
set_option linter.unusedVariables false
structure Tabs (w : World) : Prop where
  utf : Lib.Utf8Tabs 1 2 w
  max : ∃ m, w.cell? ⟨0, 0, none⟩ = some (.int .i64 m)
  pow : Lib.TabIs Tryz.prog w "internal/strconv.uint64pow10" .u64 Lib.pow10Tab
theorem var_step {w w1 : World} {P : Program} {n : String} {cs : Array Value} (h : w.var? P n = some cs) (hb : Below w.heap.size w w1) : w1.var? P n = some cs := by
  unfold World.var? at *
  cases hg : P.globalNamed n with
  | none => simp [hg] at h
  | some g =>
    simp only [hg, Option.bind_some] at h ⊢
    have hlt : g < w.heap.size := by
      rcases Nat.lt_or_ge g w.heap.size with hl | hl
      · exact hl
      · rw [Array.getElem?_eq_none hl] at h
        simp at h
    rw [hb.block g hlt]
    exact h
theorem Tabs.below {w w1 : World} (h : Tabs w) (hb : Below w.heap.size w w1) : Tabs w1 := by
  obtain ⟨⟨u1, u2⟩, ⟨m, hm⟩, hp⟩ := h
  refine ⟨⟨fun c hc => pw_cell_below hb (u1 c hc), fun i hi => ⟨pw_cell_below hb (u2 i hi).1, pw_cell_below hb (u2 i hi).2⟩⟩, ⟨m, pw_cell_below hb hm⟩, var_step hp hb⟩
theorem Tabs.alloc {w : World} (h : Tabs w) (o : Obj) : Tabs (w.alloc o) := h.below (below_alloc (Below.refl _ _) o)
theorem Tabs.drewN {w : World} (h : Tabs w) (m : Nat) : Tabs (w.drewN m) := h.below (pw_below_drewN (Below.refl _ _) m)
theorem Tabs.drew {w : World} (h : Tabs w) : Tabs w.drew := h.below (below_drew (Below.refl _ _))
def strings_Contains.f (a0 a1 : ByteArray) : Option Bool := if a1.size = 1 then some (decide (0 ≤ Lib.indexByte a0.data.toList (a1.data.toList.headD 0))) else none
theorem one_byte {a : ByteArray} (h : a.size = 1) : a = ⟨#[a.data.toList.headD 0]⟩ := by
  obtain ⟨⟨l⟩⟩ := a
  match l, h with
  | [x], _ => rfl
theorem strings_Contains.calls (a0 a1 : ByteArray) (r : Bool) (w : World) (h : strings_Contains.f a0 a1 = some r) :
    Calls Tryz.prog 119 #[.string a0, .string a1] w fun e w' => e = .returned (.bool r) ∧ Drawn0 w w' := by
  unfold strings_Contains.f at h
  split at h
  · rename_i h1
    injection h with h
    subst h
    have e := one_byte h1
    rw [e]
    exact (Tryz.strings_Contains_one a0 _ w).mono fun _ _ ⟨he, hw⟩ => ⟨he, by subst hw; exact Drawn0.refl _⟩
  · cases h
def utf8_DecodeRuneInString.f (a0 : ByteArray) : Option (Int × Int) := some ((Lib.decodeGo a0).1, (Lib.decodeGo a0).2)
theorem utf8_DecodeRuneInString.calls (a0 : ByteArray) (r1 r2 : Int) (w : World) (hT : Tabs w) (h : utf8_DecodeRuneInString.f a0 = some (r1, r2)) :
    Calls Tryz.prog 134 #[.string a0] w fun e w' => e = .returned (.tuple #[.int .i32 r1, .int .i64 r2]) ∧ Below w.heap.size w w' := by
  simp only [utf8_DecodeRuneInString.f, Option.some.injEq, Prod.mk.injEq] at h
  obtain ⟨rfl, rfl⟩ := h
  exact Tryz.utf8_DecodeRuneInString a0 w hT.utf
def strings_Compare.f (a0 a1 : ByteArray) : Option Int := some (Lib.compareBytes a0.data.toList a1.data.toList)
theorem strings_Compare.calls (a0 a1 : ByteArray) (r : Int) (w : World) (h : strings_Compare.f a0 a1 = some r) :
    Calls Tryz.prog 110 #[.string a0, .string a1] w fun e w' => e = .returned (.int .i64 r) ∧ Drawn0 w w' := by
  injection h with h
  subst h
  exact (Tryz.strings_Compare a0 a1 w).mono fun _ _ ⟨he, hw⟩ => ⟨he, by subst hw; exact Drawn0.refl _⟩
def strings_Split.f (a0 a1 : ByteArray) : Option (List ByteArray) := if a0.size < 4294967281 ∧ a1.size = 1 then some (Lib.splitB a1 0 (Lib.countB a0 a1) a0) else none
theorem splitB_len (sep : ByteArray) (h1 : 1 ≤ sep.size) (k : Nat) : ∀ s : ByteArray, k = Lib.countB s sep → (Lib.splitB sep 0 k s).length = k + 1 := by
  induction k with
  | zero => intro s _; rfl
  | succ k ih =>
    intro s h
    rcases Lib.indexB_cases s sep with hm | ⟨i, hi, _⟩
    · have := Lib.countB_miss s sep hm
      omega
    · have := Lib.countB_hit s sep i h1 hi
      rw [Lib.splitB_hit sep 0 k s i hi, List.length_cons, ih _ (by omega)]
theorem R_strs (W : World) (base : Nat) (ok : Nat → Prop) (xs : List ByteArray) (hb : base ≤ W.heap.size) (hm : xs.length ≤ 9223372036854775807) (hok : ok W.heap.size) :
    Kd.string.R 9 (W.alloc (.cells (xs.map Value.string).toArray 9)) base ok (.slice (some ⟨W.heap.size, 0, none⟩) xs.length xs.length) xs := by
  refine Kd.R_of_own (enc := Value.string) ?_ (fun k hk => ?_)
  · have h := World.ownsRow_lit (base := base) (e := 9) (size := 1) W (xs.map Value.string).toArray xs.length hb (by simpa [maxLen] using hm) (by simp)
    simpa [encs] using h
  · have : W.heap.size = k := by simpa [Value.ownBlock] using hk
    subst this
    exact hok
theorem strings_Split.calls (a0 a1 : ByteArray) (r : List ByteArray) (w : World) (hT : Tabs w) (h : strings_Split.f a0 a1 = some r) :
    Calls Tryz.prog 121 #[.string a0, .string a1] w fun e w' => ∃ v0_ : Value, e = .returned v0_ ∧ Kd.R Kd.string 9 w' w.heap.size (fun _ => True) v0_ r ∧ Below w.heap.size w w' := by
  unfold strings_Split.f at h
  split at h
  · rename_i h1
    injection h with h
    subst h
    obtain ⟨m, hm⟩ := hT.max
    refine (Tryz.strings_Split a0 a1 m w h1.1 hm (by omega)).mono ?_
    rintro e w' ⟨rfl, rfl⟩
    have hl := splitB_len a1 (by omega) _ a0 rfl
    have hc := Lib.countB_mul_le a1 (by omega) a0.size a0 (Nat.le_refl _)
    rw [h1.2, Nat.mul_one] at hc
    refine ⟨_, rfl, ?_, below_alloc (Below.refl _ _) _⟩
    have hr := R_strs w w.heap.size (fun _ => True) (Lib.splitB a1 0 (Lib.countB a0 a1) a0) (Nat.le_refl _) (by rw [hl]; omega) trivial
    rwa [hl] at hr
  · cases h
end Go.Proofs.YtabcnplfkfdeaaaGreatDoor
