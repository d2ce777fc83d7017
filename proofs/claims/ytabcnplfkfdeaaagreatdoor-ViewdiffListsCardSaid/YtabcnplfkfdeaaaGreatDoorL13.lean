/- Walks and plain laws that the claim stands on (part 13). -/
import Derived.Test.YtabcnplfkfdeaaaGreatDoorL10
import Derived.Test.YtabcnplfkfdeaaaGreatDoorL9
import Derived.StillTailTactics
namespace Go.Proofs.YtabcnplfkfdeaaaGreatDoor
open Go.RowKit Go.Proofs.YtabcnplfkfdeaaaGreatDoorW.PrintWords Go.Proofs.YtabcnplfkfdeaaaGreatDoorW.PrintLast Go.Proofs.YtabcnplfkfdeaaaGreatDoorW.PrintMore
set_option linter.unusedVariables false
set_option linter.unusedSimpArgs false
mutual
/-- What walk does at a node and below it: step is what the function value does; its bool says whether to go on. -/
def wk {σ : Type} (step : σ → S25 → ByteArray → Int → Option (Bool × σ)) (s : σ) : S25 → ByteArray → Int → Option (Bool × σ)
  | ⟨f0, f1, f2, f3, f4, f5, f6, f7, f8, f9, f10, f11⟩, path, level => (step s ⟨f0, f1, f2, f3, f4, f5, f6, f7, f8, f9, f10, f11⟩ path level).bind fun r => if r.1 then wkL step r.2 f10 path level else some (false, r.2)
def wkL {σ : Type} (step : σ → S25 → ByteArray → Int → Option (Bool × σ)) (s : σ) : List S25 → ByteArray → Int → Option (Bool × σ)
  | [], _, _ => some (true, s)
  | k :: ks, path, level => (Q.sourcetree_below.f path k.f0 (wrap64 (level + 1))).bind fun p => (wk step s k p (wrap64 (level + 1))).bind fun r => if r.1 then wkL step r.2 ks path level else some (false, r.2)
end
theorem wk_eq {σ : Type} (step : σ → S25 → ByteArray → Int → Option (Bool × σ)) (s : σ) (x : S25) (path : ByteArray) (level : Int) :
    wk step s x path level = (step s x path level).bind fun r => if r.1 then wkL step r.2 x.f10 path level else some (false, r.2) := by
  cases x; rw [wk]
theorem below_same (a0 a1 : ByteArray) (a2 : Int) (r : ByteArray) (w : World) (h : Q.sourcetree_below.f a0 a1 a2 = some r) :
    Calls Tryz.prog 99 #[.string a0, .string a1, .int .i64 a2] w fun e w' => e = .returned (.string r) ∧ w' = w := by
  unfold Q.sourcetree_below.f at h
  by_cases c : a2 ≤ 2
  · rw [if_pos c] at h
    injection h with h
    subst h
    go_enter Tryz.func99, Tryz.ntmps99
    go_wp2
    go_ret
    exact ⟨rfl, rfl⟩
  · rw [if_neg c] at h
    split at h
    · rename_i c1
      split at h
      · rename_i c2
        injection h with h
        subst h
        have e1 : (⟨#[47]⟩ : ByteArray).size = 1 := rfl
        rw [ByteArray.size_append, e1] at c2
        go_enter Tryz.func99, Tryz.ntmps99
        go_wp2
        go_ret
        exact ⟨rfl, rfl⟩
      · cases h
    · cases h
theorem below_alloc' {w0 w : World} (h : Below w0.heap.size w0 w) (o : Obj) : Below w0.heap.size w0 (w.alloc o) := h.alloc h.size o
theorem kid_size (x : S25) (i : Int) (h0 : 0 ≤ i) (h1 : i < (x.f10.length : Int)) : SizeOf.sizeOf (rd_T25 x.f10 i) < SizeOf.sizeOf x := by
  have he : rd_T25 x.f10 i = x.f10[i.toNat]'(by omega) := by simp [rd_T25, List.getD_eq_getElem?_getD, List.getElem?_eq_getElem (show i.toNat < x.f10.length by omega)]
  have hm : rd_T25 x.f10 i ∈ x.f10 := by rw [he]; exact List.getElem_mem _
  have := List.sizeOf_lt_of_mem hm
  obtain ⟨f0, f1, f2, f3, f4, f5, f6, f7, f8, f9, f10, f11⟩ := x
  simp only [S25.mk.sizeOf_spec] at this ⊢
  omega
structure Visits {σ : Type} (c : FuncId) (caps : Array Value) (S : Nat → Prop) (w0 : World) (Inv : σ → World → Prop) (step : σ → S25 → ByteArray → Int → Option (Bool × σ)) : Prop where
  enters : ∀ args w, (callFunc c args).run Tryz.prog w = .ok (.enter c args) w
  new : ∀ k, S k → w0.heap.size ≤ k
  keep : ∀ s W W', Inv s W → Kp (fun _ => False) W W' → Inv s W'
  call : ∀ s (x : S25) path level r (A c' B d) (W : World), Below w0.heap.size w0 W → Inv s W → Kd.C k25 w0 A x.f10.length x.f10 → x.f10.length ≤ c' → Kd.C k44 w0 B x.f11.length x.f11 → x.f11.length ≤ d → step s x path level = some r →
    Calls Tryz.prog c (#[.agg #[.string x.f0, .int .i64 x.f1, .string x.f2, .string x.f3, .int .i64 x.f4, .int .i64 x.f5, .int .i64 x.f6, .int .i64 x.f7, .int .i64 x.f8, .int .i64 x.f9, .slice A x.f10.length c', .slice B x.f11.length d], .string path, .int .i64 level] ++ caps) W fun e w' => e = .returned (.bool r.1) ∧ Inv r.2 w' ∧ Kp S W w'
set_option maxRecDepth 100000 in
set_option maxHeartbeats 4000000 in
theorem walk_calls {σ : Type} (c : FuncId) (caps : Array Value) (S : Nat → Prop) (w0 : World) (Inv : σ → World → Prop) (step : σ → S25 → ByteArray → Int → Option (Bool × σ)) (HV : Aside0 (Visits c caps S w0 Inv step)) (m : Nat) :
    ∀ (s : σ) (x : S25) (path : ByteArray) (level : Int) (r : Bool × σ) (A : Option Addr) (c' : Nat) (B : Option Addr) (d : Nat) (w : World), SizeOf.sizeOf x < m → (∀ k, S k → k < w.heap.size) → Below w0.heap.size w0 w → Inv s w → Kd.C k25 w0 A x.f10.length x.f10 → x.f10.length ≤ c' → Kd.C k44 w0 B x.f11.length x.f11 → x.f11.length ≤ d → wk step s x path level = some r →
    Calls Tryz.prog 76 #[.agg #[.string x.f0, .int .i64 x.f1, .string x.f2, .string x.f3, .int .i64 x.f4, .int .i64 x.f5, .int .i64 x.f6, .int .i64 x.f7, .int .i64 x.f8, .int .i64 x.f9, .slice A x.f10.length c', .slice B x.f11.length d], .string path, .int .i64 level, .func (.func c) #[] caps] w fun e w' => e = .returned (.bool r.1) ∧ Inv r.2 w' ∧ Kp S w w' := by
  induction m with
  | zero => intro _ _ _ _ _ _ _ _ _ _ h; omega
  | succ m ih =>
    intro s x path level r A c' B d w hm hO hB hI hr10 hc10 hr11 hc11 h
    have IH := Aside0.mk ih
    clear ih
    rw [wk_eq] at h
    obtain ⟨r1, hs1, h⟩ := Option.bind_eq_some_iff.mp h
    have HS1 := Aside0.mk hs1
    have HR10 := Aside0.mk hr10
    have HR11 := Aside0.mk hr11
    have HC10 := Aside0.mk hc10
    have HC11 := Aside0.mk hc11
    have HB := Aside0.mk hB
    have HI := Aside0.mk hI
    have HM := Aside0.mk hm
    have HO := Aside0.mk hO
    clear hs1 hr10 hr11 hc10 hc11 hB hI hm hO
    have hu25 := Tryz.underlying25
    obtain ⟨b1, s1⟩ := r1
    have heg := HV.out.enters
    cases b1 with
    | false =>
      simp only [Bool.false_eq_true, if_false, Option.some.injEq] at h
      subst h
      go_enter Tryz.func76, Tryz.ntmps76
      go_wp2_with fail
      refine (HV.out.call s x path level (false, s1) A c' B d _ (below_alloc' HB.out _) (HV.out.keep _ _ _ HI.out ((Kp.refl _ _).alloc _)) HR10.out HC10.out HR11.out HC11.out HS1.out).mono ?_
      rintro e w2 ⟨rfl, hi, hk⟩
      have HK := Aside0.mk (((Kp.refl S w).alloc _).trans hk)
      have HI2 := Aside0.mk hi
      clear hi hk
      go_wp2
      go_ret
      exact ⟨rfl, HI2.out, HK.out⟩
    | true =>
      simp only [if_true] at h
      have H' := Aside0.mk h
      clear h
      go_enter Tryz.func76, Tryz.ntmps76
      go_wp2_with fail
      refine (HV.out.call s x path level (true, s1) A c' B d _ (below_alloc' HB.out _) (HV.out.keep _ _ _ HI.out ((Kp.refl _ _).alloc _)) HR10.out HC10.out HR11.out HC11.out HS1.out).mono ?_
      rintro e w2 ⟨rfl, hi, hk⟩
      have HK := Aside0.mk (((Kp.refl S w).alloc _).then_ hk (fun _ h => .inl h))
      have HI2 := Aside0.mk hi
      have hcell := (blk_kp (g := w.heap.size) (by simpa using heap_alloc_new w _) hk (fun h => Nat.lt_irrefl _ (HO.out _ h)))
      clear hi hk
      have hc10 : w2.cell? ⟨w.heap.size, 10, none⟩ = some (.slice A x.f10.length c') := (blk_cell hcell 10).trans rfl
      clear hcell
      go_wp2
      clear hc10
      go_loopg [20] x.f10.length (fun kq v20 w' => ∃ (i : Int) (s2 : σ), v20 = .int .i64 i ∧ Aside0 (0 ≤ i ∧ i + kq = x.f10.length) ∧ Aside0 (wkL step s2 (x.f10.drop i.toNat) path level = some r) ∧ Aside0 (Inv s2 w') ∧ Aside0 (Kp S w w'))
      case atStart => exact ⟨0, s1, rfl, ⟨by omega⟩, H', HI2, HK⟩
      case round =>
        clear H' HI2 HK HI
        obtain ⟨i, s2, rfl, HX, HA, HI, HK⟩ := hrel
        cases gk with
        | zero =>
          have hA := HA.out
          have hx := HX.out
          have c3 : ¬ i < (x.f10.length : Int) := by omega
          rw [List.drop_eq_nil_of_le (by omega)] at hA
          simp only [wkL, Option.some.injEq] at hA
          subst hA
          have c3b : decide (i < (x.f10.length : Int)) = false := decide_eq_false c3
          clear hx c3 HX HA
          go_wp2
          go_ret
          exact ⟨rfl, HI.out, HK.out⟩
        | succ k1 =>
          have hA := HA.out
          have hx := HX.out
          have h0 : 0 ≤ i := hx.1
          have h1 : i < (x.f10.length : Int) := by omega
          rw [List.drop_eq_getElem_cons (by omega)] at hA
          simp only [wkL] at hA
          have he : x.f10[i.toNat]'(by omega) = rd_T25 x.f10 i := by simp [rd_T25, List.getD_eq_getElem?_getD, List.getElem?_eq_getElem (show i.toNat < x.f10.length by omega)]
          rw [he] at hA
          obtain ⟨p, hp, hA⟩ := Option.bind_eq_some_iff.mp hA
          obtain ⟨r2, hw, hA⟩ := Option.bind_eq_some_iff.mp hA
          have HP := Aside0.mk hp
          have HW := Aside0.mk hw
          have HA' := Aside0.mk hA
          have hbr := Kp.after HB.out HK.out HV.out.new
          obtain ⟨ad, A10, c10, A11, c11, eA, x0, x1, x2, x3, x4, x5, x6, x7, x8, x9, x10, x11, l10, g10, l11, g11⟩ := nd_at hbr HR10.out i h0 h1
          subst eA
          have HBR := Aside0.mk hbr
          have L10 := Aside0.mk l10
          have G10 := Aside0.mk g10
          have L11 := Aside0.mk l11
          have G11 := Aside0.mk g11
          clear hp hw hA he hx hbr l10 g10 l11 g11 HA
          have c3b : decide (i < (x.f10.length : Int)) = true := decide_eq_true h1
          replace h0 := eq_true h0
          replace h1 := eq_true h1
          go_wp2_with fail
          have hwr : IntKind.i64.wrap (level + 1) = wrap64 (level + 1) := by rw [IntKind.wrap_i64, wrap64]
          obtain ⟨w3, h3⟩ : ∃ w3, w3 = wr.alloc (.cells #[.string (rd_T25 x.f10 i).f0, .int .i64 (rd_T25 x.f10 i).f1, .string (rd_T25 x.f10 i).f2, .string (rd_T25 x.f10 i).f3, .int .i64 (rd_T25 x.f10 i).f4, .int .i64 (rd_T25 x.f10 i).f5, .int .i64 (rd_T25 x.f10 i).f6, .int .i64 (rd_T25 x.f10 i).f7, .int .i64 (rd_T25 x.f10 i).f8, .int .i64 (rd_T25 x.f10 i).f9, .slice A10 (rd_T25 x.f10 i).f10.length c10, .slice A11 (rd_T25 x.f10 i).f11.length c11] 25) := ⟨_, rfl⟩
          have hbox : w3.heap[wr.heap.size]? = some (.cells #[.string (rd_T25 x.f10 i).f0, .int .i64 (rd_T25 x.f10 i).f1, .string (rd_T25 x.f10 i).f2, .string (rd_T25 x.f10 i).f3, .int .i64 (rd_T25 x.f10 i).f4, .int .i64 (rd_T25 x.f10 i).f5, .int .i64 (rd_T25 x.f10 i).f6, .int .i64 (rd_T25 x.f10 i).f7, .int .i64 (rd_T25 x.f10 i).f8, .int .i64 (rd_T25 x.f10 i).f9, .slice A10 (rd_T25 x.f10 i).f10.length c10, .slice A11 (rd_T25 x.f10 i).f11.length c11] 25 (0, 0)) := by rw [h3]; exact heap_alloc_new wr _
          have HI3 := Aside0.mk (show Inv s2 w3 by rw [h3]; exact HV.out.keep _ _ _ HI.out ((Kp.refl _ _).alloc _))
          have HK3 := Aside0.mk (show Kp S w w3 by rw [h3]; exact HK.out.alloc _)
          rw [← h3]
          clear h3
          have z0 := (blk_cell hbox 0).trans rfl
          have z1 := (blk_cell hbox 1).trans rfl
          have z2 := (blk_cell hbox 2).trans rfl
          have z3 := (blk_cell hbox 3).trans rfl
          have z4 := (blk_cell hbox 4).trans rfl
          have z5 := (blk_cell hbox 5).trans rfl
          have z6 := (blk_cell hbox 6).trans rfl
          have z7 := (blk_cell hbox 7).trans rfl
          have z8 := (blk_cell hbox 8).trans rfl
          have z9 := (blk_cell hbox 9).trans rfl
          have z10 := (blk_cell hbox 10).trans rfl
          have z11 := (blk_cell hbox 11).trans rfl
          clear hbox
          refine wp_region_still_tail 10 (by kernel_rfl) (by kernel_rfl) ?_
          simp only [List.take_succ_cons, List.take_zero, List.drop_succ_cons, List.drop_zero]
          change wpStill _ _ w3.drew (fun a' => wpList _ _ _ _ a' w3.drew) _ _
          repeat still_step
          still_call (below_same _ _ _ p _ HP.out)
          repeat still_step
          refine wpStill_nil ?_
          clear z0 z1 z2 z3 z4 z5 z6 z7 z8 z9 z10 z11
          obtain ⟨b2, s3⟩ := r2
          have hsz := Aside0.mk (Nat.lt_of_lt_of_le (kid_size x i (of_eq_true h0) (of_eq_true h1)) (Nat.le_of_lt_succ HM.out))
          clear hwr
          go_wp2_with fail
          refine (IH.out s2 (rd_T25 x.f10 i) p (wrap64 (level + 1)) (b2, s3) A10 c10 A11 c11 w3.drew hsz.out (fun k hk => Nat.lt_of_lt_of_le (HO.out k hk) HK3.out.size) (Kp.after HB.out HK3.out.drew HV.out.new) (HV.out.keep _ _ _ HI3.out (Kp.refl _ _).drew) G10.out L10.out G11.out L11.out HW.out).mono ?_
          rintro e w4 ⟨rfl, hi, hk⟩
          have HK4 := Aside0.mk (HK3.out.drew.trans hk)
          have HI4 := Aside0.mk hi
          clear hi hk HI3 HK3
          cases b2 with
          | false =>
            have hA := HA'.out
            simp only [Bool.false_eq_true, if_false, Option.some.injEq] at hA
            subst hA
            go_wp2
            go_ret
            exact ⟨rfl, HI4.out, HK4.out⟩
          | true =>
            have hA := HA'.out
            simp only [if_true] at hA
            have HA2 := Aside0.mk hA
            clear hA HA'
            have hx := HX.out
            have h64 : i + 1 ≤ 9223372036854775807 := by have := Kd.C_max HR10.out; omega
            go_wp2
            go_roundg k1
            case measure => omega
            case rel => exact ⟨i + 1, s3, (by first | rfl | (simp; done)), ⟨by omega⟩, ⟨by rw [show (i + 1).toNat = i.toNat + 1 by omega]; exact HA2.out⟩, HI4, HK4⟩
end Go.Proofs.YtabcnplfkfdeaaaGreatDoor
