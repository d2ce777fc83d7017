/- Walks and plain laws that the claim stands on (part 19). -/
import Derived.Test.YtabcnplfkfdeaaaGreatDoorL16
import Derived.Test.YtabcnplfkfdeaaaGreatDoorL17
import Derived.Test.YtabcnplfkfdeaaaGreatDoorL18
import Derived.Deep.DeepMust
import Derived.Laws.EntriesVeiled
import Derived.WalkLawsBesides
namespace Go.Proofs.YtabcnplfkfdeaaaGreatDoor
open Go.RowKit Go.Proofs.YtabcnplfkfdeaaaGreatDoorW.PrintWords Go.Proofs.YtabcnplfkfdeaaaGreatDoorW.PrintLast Go.Proofs.YtabcnplfkfdeaaaGreatDoorW.PrintMore
set_option linter.unusedVariables false
set_option linter.unusedSimpArgs false
def app (l : List S34) (d : S34) : Option (List S34) := if l.length < 5864062014805 then some (l ++ [d]) else none
def less (a b : ByteArray) : Bool := Op.bytesLess a.toList b.toList
def more (a b : ByteArray) : Bool := !(Op.bytesLess a.toList b.toList || a.toList == b.toList)
def fd (a b : S25) : Nat → Option Bool
  | 0 => Q3.viewdiff_fields_1.f a.f0 a.f1 a.f2 a.f3 a.f4 a.f5 a.f6 a.f7 a.f8 a.f9 a.f10 a.f11 b.f0 b.f1 b.f2 b.f3 b.f4 b.f5 b.f6 b.f7 b.f8 b.f9 b.f10 b.f11
  | 1 => Q3.viewdiff_fields_2.f a.f0 a.f1 a.f2 a.f3 a.f4 a.f5 a.f6 a.f7 a.f8 a.f9 a.f10 a.f11 b.f0 b.f1 b.f2 b.f3 b.f4 b.f5 b.f6 b.f7 b.f8 b.f9 b.f10 b.f11
  | 2 => Q3.viewdiff_fields_3.f a.f0 a.f1 a.f2 a.f3 a.f4 a.f5 a.f6 a.f7 a.f8 a.f9 a.f10 a.f11 b.f0 b.f1 b.f2 b.f3 b.f4 b.f5 b.f6 b.f7 b.f8 b.f9 b.f10 b.f11
  | 3 => Q3.viewdiff_fields_4.f a.f0 a.f1 a.f2 a.f3 a.f4 a.f5 a.f6 a.f7 a.f8 a.f9 a.f10 a.f11 b.f0 b.f1 b.f2 b.f3 b.f4 b.f5 b.f6 b.f7 b.f8 b.f9 b.f10 b.f11
  | _ => Q3.viewdiff_fields_5.f (a.f11.length + 2) a.f0 a.f1 a.f2 a.f3 a.f4 a.f5 a.f6 a.f7 a.f8 a.f9 a.f10 a.f11 b.f0 b.f1 b.f2 b.f3 b.f4 b.f5 b.f6 b.f7 b.f8 b.f9 b.f10 b.f11
def fdFn : Nat → FuncId
  | 0 => 86
  | 1 => 87
  | 2 => 88
  | 3 => 89
  | _ => 90
def fdGo (path : ByteArray) (a b : S25) (i : Nat) : Nat → List S34 → Option (List S34)
  | 0, l => some l
  | m + 1, l => (fd a b i).bind fun t => if t then (app l ⟨3 + i, path⟩).bind fun l' => fdGo path a b (i + 1) m l' else fdGo path a b (i + 1) m l
def mergeGo (f : List S34 → ByteArray → S25 → S25 → Option (List S34)) (path : ByteArray) (xs ys : List S25) : Nat → Int → Int → List S34 → Option (List S34)
  | 0, _, _, _ => none
  | m + 1, i, j, l =>
    if i < xs.length ∨ j < ys.length then
      if j = ys.length ∨ (i < xs.length ∧ less (rd_T25 xs i).f0 (rd_T25 ys j).f0 = true) then (Q2.viewdiff_joined.f path (rd_T25 xs i).f0).bind fun p => (app l ⟨0, p⟩).bind fun l' => mergeGo f path xs ys m (i + 1) j l'
      else if i = xs.length ∨ more (rd_T25 xs i).f0 (rd_T25 ys j).f0 = true then (Q2.viewdiff_joined.f path (rd_T25 ys j).f0).bind fun p => (app l ⟨1, p⟩).bind fun l' => mergeGo f path xs ys m i (j + 1) l'
      else (Q2.viewdiff_joined.f path (rd_T25 xs i).f0).bind fun p => (f l p (rd_T25 xs i) (rd_T25 ys j)).bind fun l' => mergeGo f path xs ys m (i + 1) (j + 1) l'
    else some l
def cmpN : Nat → List S34 → ByteArray → S25 → S25 → Option (List S34)
  | 0, _, _, _, _ => none
  | n + 1, l, path, a, b => if a.f1 = b.f1 then (fdGo path a b 0 5 l).bind fun l' => mergeGo (cmpN n) path a.f10 b.f10 (a.f10.length + b.f10.length + 1) 0 0 l' else app l ⟨2, path⟩
theorem infoDif : (Tryz.prog.info? 34).map (fun i => (i.zero, i.size, i.bytes)) = some (some (.agg #[.int .i64 0, .string ⟨#[]⟩]), 2, 24) := by kernel_rfl
theorem fd_enters (i : Nat) (args : Array Value) (w : World) : (callFunc (fdFn i) args).run Tryz.prog w = .ok (.enter (fdFn i) args) w := by
  match i with
  | 0 => exact enters_of Tryz.func86 (by kernel_rfl) rfl args w
  | 1 => exact enters_of Tryz.func87 (by kernel_rfl) rfl args w
  | 2 => exact enters_of Tryz.func88 (by kernel_rfl) rfl args w
  | 3 => exact enters_of Tryz.func89 (by kernel_rfl) rfl args w
  | n + 4 => exact enters_of Tryz.func90 (by kernel_rfl) rfl args w
theorem fd_calls (i : Nat) (a b : S25) (r : Bool) (A : Option Addr) (c : Nat) (B : Option Addr) (d : Nat) (A' : Option Addr) (c' : Nat) (B' : Option Addr) (d' : Nat) (w : World)
    (h1 : Kd.C k25 w A a.f10.length a.f10) (h2 : a.f10.length ≤ c) (h3 : Kd.C k44 w B a.f11.length a.f11) (h4 : a.f11.length ≤ d) (h5 : Kd.C k25 w A' b.f10.length b.f10) (h6 : b.f10.length ≤ c') (h7 : Kd.C k44 w B' b.f11.length b.f11) (h8 : b.f11.length ≤ d') (h : fd a b i = some r) :
    Calls Tryz.prog (fdFn i) #[.agg #[.string a.f0, .int .i64 a.f1, .string a.f2, .string a.f3, .int .i64 a.f4, .int .i64 a.f5, .int .i64 a.f6, .int .i64 a.f7, .int .i64 a.f8, .int .i64 a.f9, .slice A a.f10.length c, .slice B a.f11.length d], .agg #[.string b.f0, .int .i64 b.f1, .string b.f2, .string b.f3, .int .i64 b.f4, .int .i64 b.f5, .int .i64 b.f6, .int .i64 b.f7, .int .i64 b.f8, .int .i64 b.f9, .slice A' b.f10.length c', .slice B' b.f11.length d']] w fun e w' => e = .returned (.bool r) ∧ Below w.heap.size w w' := by
  match i, h with
  | 0, h => exact Q3.viewdiff_fields_1.calls _ _ _ _ _ _ _ _ _ _ A c _ B d _ _ _ _ _ _ _ _ _ _ _ A' c' _ B' d' _ r w h1 h2 h3 h4 h5 h6 h7 h8 h
  | 1, h => exact Q3.viewdiff_fields_2.calls _ _ _ _ _ _ _ _ _ _ A c _ B d _ _ _ _ _ _ _ _ _ _ _ A' c' _ B' d' _ r w h1 h2 h3 h4 h5 h6 h7 h8 h
  | 2, h => exact Q3.viewdiff_fields_3.calls _ _ _ _ _ _ _ _ _ _ A c _ B d _ _ _ _ _ _ _ _ _ _ _ A' c' _ B' d' _ r w h1 h2 h3 h4 h5 h6 h7 h8 h
  | 3, h => exact Q3.viewdiff_fields_4.calls _ _ _ _ _ _ _ _ _ _ A c _ B d _ _ _ _ _ _ _ _ _ _ _ A' c' _ B' d' _ r w h1 h2 h3 h4 h5 h6 h7 h8 h
  | n + 4, h => exact Q3.viewdiff_fields_5.calls _ _ _ _ _ _ _ _ _ _ _ A c _ B d _ _ _ _ _ _ _ _ _ _ _ A' c' _ B' d' _ r w h1 h2 h3 h4 h5 h6 h7 h8 h
def fdVals : Array Value := #[.int .i64 3, .func (.func 86) #[] #[], .int .i64 4, .func (.func 87) #[] #[], .int .i64 5, .func (.func 88) #[] #[], .int .i64 6, .func (.func 89) #[] #[], .int .i64 7, .func (.func 90) #[] #[]]
theorem fdVals_at (i : Nat) (h : i < 5) : fdVals[i * 2]? = some (.int .i64 (3 + i)) ∧ fdVals[i * 2 + 1]? = some (.func (.func (fdFn i)) #[] #[]) := by
  match i, h with
  | 0, _ => exact ⟨rfl, rfl⟩
  | 1, _ => exact ⟨rfl, rfl⟩
  | 2, _ => exact ⟨rfl, rfl⟩
  | 3, _ => exact ⟨rfl, rfl⟩
  | 4, _ => exact ⟨rfl, rfl⟩
theorem fields_calls (w : World) : Calls Tryz.prog 60 #[] w fun e w' => e = .returned (.slice (some ⟨w.heap.size, 0, none⟩) 5 5) ∧ w' = w.alloc (.cells fdVals 80) := by
  go_enter Tryz.func60, Tryz.ntmps60
  go_wp2
  go_ret
  exact ⟨rfl, rfl⟩
theorem joined_same (a0 a1 r : ByteArray) (w : World) (h : Q2.viewdiff_joined.f a0 a1 = some r) : Calls Tryz.prog 61 #[.string a0, .string a1] w fun e w' => e = .returned (.string r) ∧ w' = w := by
  unfold Q2.viewdiff_joined.f at h
  by_cases c : a0.toList = []
  · rw [if_pos c] at h
    injection h with h
    subst h
    have cb : (a0.toList == ([] : List UInt8)) = true := beq_iff_eq.mpr c
    go_enter Tryz.func61, Tryz.ntmps61
    go_wp2
    go_ret
    exact ⟨rfl, rfl⟩
  · rw [if_neg c] at h
    have cb : (a0.toList == ([] : List UInt8)) = false := beq_eq_false_iff_ne.mpr c
    split at h
    · rename_i c1
      split at h
      · rename_i c2
        injection h with h
        subst h
        have e1 : (⟨#[47]⟩ : ByteArray).size = 1 := rfl
        rw [ByteArray.size_append, e1] at c2
        go_enter Tryz.func61, Tryz.ntmps61
        go_wp2
        go_ret
        exact ⟨rfl, rfl⟩
      · cases h
    · cases h
def RowOf (v : Value) (k : Nat) : Prop := v.ownBlock = some k
theorem Kp.of_grown {w w1 : World} {v : Value} (h : w.grownBy w1 v.ownBlock) : Kp (RowOf v) w w1 := ⟨h.os, h.tape, h.output, h.size, fun k hk hn => h.block k hk (fun e => hn e.symm)⟩
def RowTo (w : World) (v v' : Value) : Prop := ∀ k, v'.ownBlock = some k → v.ownBlock = some k ∨ w.heap.size ≤ k
theorem RowTo.of {w W : World} {v v1 : Value} (h : v1.ownBlock = v.ownBlock ∨ ∃ b, v1.ownBlock = some b ∧ W.heap.size ≤ b) (hs : w.heap.size ≤ W.heap.size) : RowTo w v v1 := by
  intro k hk
  rcases h with h | ⟨b, hb, hle⟩
  · exact .inl (h ▸ hk)
  · rw [hb] at hk
    injection hk with hk
    omega
theorem RowTo.trans {w w1 : World} {v v1 v2 : Value} (h : RowTo w v v1) (h2 : RowTo w1 v1 v2) (hs : w.heap.size ≤ w1.heap.size) : RowTo w v v2 := fun k hk => (h2 k hk).elim (h k) (fun h => .inr (by omega))
theorem Kp.row {w w1 w2 : World} {v v1 : Value} (h : Kp (RowOf v) w w1) (h2 : Kp (RowOf v1) w1 w2) (hr : RowTo w v v1) : Kp (RowOf v) w w2 := h.then_ h2 (fun k hk => hr k hk)
def CmpAt (n : Nat) : Prop :=
  ∀ (l r : List S34) (path : ByteArray) (a b : S25) (v : Value) (A : Option Addr) (c : Nat) (B : Option Addr) (d : Nat) (A' : Option Addr) (c' : Nat) (B' : Option Addr) (d' : Nat) (w0 w : World),
    Kd.C k25 w0 A a.f10.length a.f10 → a.f10.length ≤ c → Kd.C k44 w0 B a.f11.length a.f11 → a.f11.length ≤ d → Kd.C k25 w0 A' b.f10.length b.f10 → b.f10.length ≤ c' → Kd.C k44 w0 B' b.f11.length b.f11 → b.f11.length ≤ d' →
    Below w0.heap.size w0 w → Kd.R k34 34 w w0.heap.size (fun _ => True) v l → cmpN n l path a b = some r →
    Calls Tryz.prog 40 #[v, .string path, .agg #[.string a.f0, .int .i64 a.f1, .string a.f2, .string a.f3, .int .i64 a.f4, .int .i64 a.f5, .int .i64 a.f6, .int .i64 a.f7, .int .i64 a.f8, .int .i64 a.f9, .slice A a.f10.length c, .slice B a.f11.length d], .agg #[.string b.f0, .int .i64 b.f1, .string b.f2, .string b.f3, .int .i64 b.f4, .int .i64 b.f5, .int .i64 b.f6, .int .i64 b.f7, .int .i64 b.f8, .int .i64 b.f9, .slice A' b.f10.length c', .slice B' b.f11.length d']] w fun e w' => ∃ v', e = .returned v' ∧ Kd.R k34 34 w' w0.heap.size (fun _ => True) v' r ∧ Below w0.heap.size w0 w' ∧ Kp (RowOf v) w w' ∧ RowTo w v v'
set_option maxRecDepth 100000 in
set_option maxHeartbeats 8000000 in
theorem compare_kinds (n : Nat) (l r : List S34) (path : ByteArray) (a b : S25) (v : Value) (A : Option Addr) (c : Nat) (B : Option Addr) (d : Nat) (A' : Option Addr) (c' : Nat) (B' : Option Addr) (d' : Nat) (w0 w : World)
    (hB : Below w0.heap.size w0 w) (hO : Kd.R k34 34 w w0.heap.size (fun _ => True) v l) (hk : a.f1 ≠ b.f1) (h : app l ⟨2, path⟩ = some r) :
    Calls Tryz.prog 40 #[v, .string path, .agg #[.string a.f0, .int .i64 a.f1, .string a.f2, .string a.f3, .int .i64 a.f4, .int .i64 a.f5, .int .i64 a.f6, .int .i64 a.f7, .int .i64 a.f8, .int .i64 a.f9, .slice A a.f10.length c, .slice B a.f11.length d], .agg #[.string b.f0, .int .i64 b.f1, .string b.f2, .string b.f3, .int .i64 b.f4, .int .i64 b.f5, .int .i64 b.f6, .int .i64 b.f7, .int .i64 b.f8, .int .i64 b.f9, .slice A' b.f10.length c', .slice B' b.f11.length d']] w fun e w' => ∃ v', e = .returned v' ∧ Kd.R k34 34 w' w0.heap.size (fun _ => True) v' r ∧ Below w0.heap.size w0 w' ∧ Kp (RowOf v) w w' ∧ RowTo w v v' := by
  unfold app at h
  split at h
  · rename_i hl
    injection h with h
    have HL := Aside0.mk hl
    have HRR := Aside0.mk h
    have HB := Aside0.mk hB
    have HO := Aside0.mk hO
    have hkb : (a.f1 != b.f1) = true := by simpa using hk
    clear hl h hB hO hk
    have hu25 := Tryz.underlying25
    have hu34 := Tryz.underlying34
    go_enter Tryz.func40, Tryz.ntmps40
    go_wp2_with (first | ((with_reducible refine gate_builtin (b := .append) (xs := #[.tmp 18, .tmp 21]) rfl ?_); at_builtin; refine Kd.R_append k34 (w0 := w0) w0.heap.size rfl (.tmp 18) (.tmp 21) 28 34 (.agg #[.int .i64 0, .string ⟨#[]⟩]) 24 rfl Tryz.underlying28 infoDif rfl (by decide) (by omega) v l ⟨2, path⟩ [.int .i64 2, .string path] (fun _ => True) (fun _ => False) rfl (by first | rfl | simp [Act.eval]) ?aP (fun _ hk => hk.elim) (fun _ _ => trivial) ?aO ?aB ?aS ?aL ?_; (case aP => exact k34_mkM _ _ _ _); (case aB => exact (by repeat (first | exact HB.out | apply below_alloc | apply pw_below_drewN | apply below_drew1))); (case aO => exact (by repeat (first | exact HO.out | apply Kd.R_alloc | apply Kd.R_drewN | apply Kd.R_drew))); (case aS => exact (below_size (by repeat (first | exact HB.out | apply below_alloc | apply pw_below_drewN | apply below_drew1)))); (case aL => have := HL.out; omega); intro v1 w1 ho hb hg hat; have HB1 := Aside0.mk hb; have HO1 := Aside0.mk ho; have HK1 := Aside0.mk ((((Kp.refl (RowOf v) w).alloc _).alloc _).trans (Kp.of_grown hg)); have HT1 := Aside0.mk (RowTo.of (w := w) hat (by simp; omega)); clear ho hb hg hat HB HO))
    go_wp2
    go_ret
    exact ⟨_, rfl, by rw [← HRR.out]; exact HO1.out, HB1.out, HK1.out, HT1.out⟩
  · cases h
structure CmpSt (w0 w : World) (v : Value) (a b : S25) (A : Option Addr) (c : Nat) (B : Option Addr) (d : Nat) (A' : Option Addr) (c' : Nat) (B' : Option Addr) (d' : Nat) (u : Value) (l : List S34) (W : World) : Prop where
  row : Kd.R k34 34 W w0.heap.size (fun _ => True) u l
  bel : Below w0.heap.size w0 W
  kp : Kp (RowOf v) w W
  rto : RowTo w v u
  b6 : W.heap[w.heap.size]? = some (.cells #[.string a.f0, .int .i64 a.f1, .string a.f2, .string a.f3, .int .i64 a.f4, .int .i64 a.f5, .int .i64 a.f6, .int .i64 a.f7, .int .i64 a.f8, .int .i64 a.f9, .slice A a.f10.length c, .slice B a.f11.length d] 25 (0, 0))
  b7 : W.heap[w.heap.size + 1]? = some (.cells #[.string b.f0, .int .i64 b.f1, .string b.f2, .string b.f3, .int .i64 b.f4, .int .i64 b.f5, .int .i64 b.f6, .int .i64 b.f7, .int .i64 b.f8, .int .i64 b.f9, .slice A' b.f10.length c', .slice B' b.f11.length d'] 25 (0, 0))
section
variable {w0 w W W1 : World} {v u u1 : Value} {a b : S25} {A : Option Addr} {c : Nat} {B : Option Addr} {d : Nat} {A' : Option Addr} {c' : Nat} {B' : Option Addr} {d' : Nat} {l l1 : List S34}
theorem CmpSt.below (h : CmpSt w0 w v a b A c B d A' c' B' d' u l W) (hb : Below W.heap.size W W1) : CmpSt w0 w v a b A c B d A' c' B' d' u l W1 :=
  ⟨Kd.R_below h.row hb, below_step h.bel hb, h.kp.below hb, h.rto, blk_kp h.b6 (Kp.of_below hb (fun _ => False)) (fun h => h), blk_kp h.b7 (Kp.of_below hb (fun _ => False)) (fun h => h)⟩
theorem CmpSt.drewN (h : CmpSt w0 w v a b A c B d A' c' B' d' u l W) (m : Nat) : CmpSt w0 w v a b A c B d A' c' B' d' u l (W.drewN m) := h.below (pw_below_drewN (Below.refl _ _) m)
theorem CmpSt.alloc (h : CmpSt w0 w v a b A c B d A' c' B' d' u l W) (o : Obj) : CmpSt w0 w v a b A c B d A' c' B' d' u l (W.alloc o) := h.below (below_alloc (Below.refl _ _) o)
theorem CmpSt.step (h : CmpSt w0 w v a b A c B d A' c' B' d' u l W) (hr : Kd.R k34 34 W1 w0.heap.size (fun _ => True) u1 l1) (hb : Below w0.heap.size w0 W1) (hk : Kp (RowOf u) W W1) (ht : RowTo W u u1) : CmpSt w0 w v a b A c B d A' c' B' d' u1 l1 W1 :=
  ⟨hr, hb, h.kp.row hk h.rto, h.rto.trans ht h.kp.size, blk_kp h.b6 hk (fun e => Kd.R_ne h.row h.b6 (by decide) e.symm), blk_kp h.b7 hk (fun e => Kd.R_ne h.row h.b7 (by decide) e.symm)⟩
theorem CmpSt.grown (h : CmpSt w0 w v a b A c B d A' c' B' d' u l W) (hr : Kd.R k34 34 W1 w0.heap.size (fun _ => True) u1 l1) (hb : Below w0.heap.size w0 W1) (hg : W.grownBy W1 u.ownBlock) (hat : u1.ownBlock = u.ownBlock ∨ ∃ b, u1.ownBlock = some b ∧ W.heap.size ≤ b) : CmpSt w0 w v a b A c B d A' c' B' d' u1 l1 W1 :=
  h.step hr hb (Kp.of_grown hg) (RowTo.of hat (Nat.le_refl _))
end
theorem app_some {l r : List S34} {d : S34} (h : app l d = some r) : l.length < 5864062014805 ∧ l ++ [d] = r := by
  unfold app at h
  split at h
  · rename_i h1
    exact ⟨h1, Option.some.inj h⟩
  · cases h
set_option maxRecDepth 100000 in
set_option maxHeartbeats 16000000 in
theorem compare_step (n : Nat) (IH : Aside0 (CmpAt n)) (l r : List S34) (path : ByteArray) (a b : S25) (v : Value) (A : Option Addr) (c : Nat) (B : Option Addr) (d : Nat) (A' : Option Addr) (c' : Nat) (B' : Option Addr) (d' : Nat) (w0 w : World)
    (h1 : Kd.C k25 w0 A a.f10.length a.f10) (h2 : a.f10.length ≤ c) (h3 : Kd.C k44 w0 B a.f11.length a.f11) (h4 : a.f11.length ≤ d) (h5 : Kd.C k25 w0 A' b.f10.length b.f10) (h6 : b.f10.length ≤ c') (h7 : Kd.C k44 w0 B' b.f11.length b.f11) (h8 : b.f11.length ≤ d')
    (hB : Below w0.heap.size w0 w) (hO : Kd.R k34 34 w w0.heap.size (fun _ => True) v l) (hk : a.f1 = b.f1) (lm : List S34) (hf : fdGo path a b 0 5 l = some lm) (hm : mergeGo (cmpN n) path a.f10 b.f10 (a.f10.length + b.f10.length + 1) 0 0 lm = some r) :
    Calls Tryz.prog 40 #[v, .string path, .agg #[.string a.f0, .int .i64 a.f1, .string a.f2, .string a.f3, .int .i64 a.f4, .int .i64 a.f5, .int .i64 a.f6, .int .i64 a.f7, .int .i64 a.f8, .int .i64 a.f9, .slice A a.f10.length c, .slice B a.f11.length d], .agg #[.string b.f0, .int .i64 b.f1, .string b.f2, .string b.f3, .int .i64 b.f4, .int .i64 b.f5, .int .i64 b.f6, .int .i64 b.f7, .int .i64 b.f8, .int .i64 b.f9, .slice A' b.f10.length c', .slice B' b.f11.length d']] w fun e w' => ∃ v', e = .returned v' ∧ Kd.R k34 34 w' w0.heap.size (fun _ => True) v' r ∧ Below w0.heap.size w0 w' ∧ Kp (RowOf v) w w' ∧ RowTo w v v' := by
  have H1 := Aside0.mk h1
  have H2 := Aside0.mk h2
  have H3 := Aside0.mk h3
  have H4 := Aside0.mk h4
  have H5 := Aside0.mk h5
  have H6 := Aside0.mk h6
  have H7 := Aside0.mk h7
  have H8 := Aside0.mk h8
  have HF := Aside0.mk hf
  have HM := Aside0.mk hm
  have HB := Aside0.mk hB
  have HO := Aside0.mk hO
  have hkb : (a.f1 != b.f1) = false := by simpa using hk
  clear h1 h2 h3 h4 h5 h6 h7 h8 hf hm hB hO hk
  have hu25 := Tryz.underlying25
  have hu34 := Tryz.underlying34
  have hu80 := Tryz.underlying80
  go_enter Tryz.func40, Tryz.ntmps40
  go_wp2_with (go_at_call 60; refine (fields_calls _).mono ?_; rintro e w' ⟨rfl, rfl⟩)
  clear hkb
  obtain ⟨w2, h2⟩ : ∃ w2, w2 = ((w.alloc (.cells #[.string a.f0, .int .i64 a.f1, .string a.f2, .string a.f3, .int .i64 a.f4, .int .i64 a.f5, .int .i64 a.f6, .int .i64 a.f7, .int .i64 a.f8, .int .i64 a.f9, .slice A a.f10.length c, .slice B a.f11.length d] 25)).alloc (.cells #[.string b.f0, .int .i64 b.f1, .string b.f2, .string b.f3, .int .i64 b.f4, .int .i64 b.f5, .int .i64 b.f6, .int .i64 b.f7, .int .i64 b.f8, .int .i64 b.f9, .slice A' b.f10.length c', .slice B' b.f11.length d'] 25)).alloc (.cells fdVals 80) := ⟨_, rfl⟩
  have hst : CmpSt w0 w v a b A c B d A' c' B' d' v l w2 := by
    rw [h2]
    refine CmpSt.alloc ⟨Kd.R_alloc (Kd.R_alloc HO.out _) _, below_alloc' (below_alloc' HB.out _) _, ((Kp.refl _ _).alloc _).alloc _, fun k hk => .inl hk, blk_alloc (heap_alloc_new w _) _, ?_⟩ _
    have := heap_alloc_new (w.alloc (.cells #[.string a.f0, .int .i64 a.f1, .string a.f2, .string a.f3, .int .i64 a.f4, .int .i64 a.f5, .int .i64 a.f6, .int .i64 a.f7, .int .i64 a.f8, .int .i64 a.f9, .slice A a.f10.length c, .slice B a.f11.length d] 25)) (.cells #[.string b.f0, .int .i64 b.f1, .string b.f2, .string b.f3, .int .i64 b.f4, .int .i64 b.f5, .int .i64 b.f6, .int .i64 b.f7, .int .i64 b.f8, .int .i64 b.f9, .slice A' b.f10.length c', .slice B' b.f11.length d'] 25)
    simpa using this
  have hbx : w2.heap[w.heap.size + 1 + 1]? = some (.cells fdVals 80 (0, 0)) := by
    have := heap_alloc_new ((w.alloc (.cells #[.string a.f0, .int .i64 a.f1, .string a.f2, .string a.f3, .int .i64 a.f4, .int .i64 a.f5, .int .i64 a.f6, .int .i64 a.f7, .int .i64 a.f8, .int .i64 a.f9, .slice A a.f10.length c, .slice B a.f11.length d] 25)).alloc (.cells #[.string b.f0, .int .i64 b.f1, .string b.f2, .string b.f3, .int .i64 b.f4, .int .i64 b.f5, .int .i64 b.f6, .int .i64 b.f7, .int .i64 b.f8, .int .i64 b.f9, .slice A' b.f10.length c', .slice B' b.f11.length d'] 25)) (.cells fdVals 80)
    rw [h2]
    simpa using this
  rw [← h2]
  clear h2
  have ST := Aside0.mk hst
  have FB := Aside0.mk hbx
  clear hst hbx HO HB
  go_loopg [0, 25] 5 (fun kq v0 v25 W => ∃ (i : Nat) (l1 : List S34), v25 = .int .i64 i ∧ Aside0 (i + kq = 5) ∧ Aside0 (fdGo path a b i kq l1 = some lm) ∧ Aside0 (CmpSt w0 w v a b A c B d A' c' B' d' v0 l1 W) ∧ Aside0 (W.heap[w.heap.size + 1 + 1]? = some (.cells fdVals 80 (0, 0))))
  case atStart => exact ⟨0, l, rfl, ⟨rfl⟩, HF, ST, FB⟩
  case round =>
    clear HF ST FB
    obtain ⟨i, l1, rfl, HN, HG, ST, FB⟩ := hrel
    cases gk with
    | zero =>
      have hn := HN.out
      obtain rfl : i = 5 := by omega
      have hg := HG.out
      simp only [fdGo, Option.some.injEq] at hg
      subst hg
      have p10 := (blk_cell ST.out.b6 10).trans rfl
      have q10 := (blk_cell ST.out.b7 10).trans rfl
      clear hn HN HG FB
      go_wp2
      clear p10 q10
      go_loopg [0, 11, 12] (a.f10.length + b.f10.length + 1) (fun kq v0 v11 v12 W => ∃ (i j : Int) (l2 : List S34), v11 = .int .i64 i ∧ v12 = .int .i64 j ∧ Aside0 (0 ≤ i ∧ i ≤ a.f10.length ∧ 0 ≤ j ∧ j ≤ b.f10.length) ∧ Aside0 (mergeGo (cmpN n) path a.f10 b.f10 kq i j l2 = some r) ∧ Aside0 (CmpSt w0 w v a b A c B d A' c' B' d' v0 l2 W))
      case atStart => exact ⟨0, 0, l1, rfl, rfl, ⟨by omega⟩, HM, ST⟩
      case round =>
        clear HM ST
        obtain ⟨i, j, l2, rfl, rfl, HN, HG, ST⟩ := hrel
        cases gk with
        | zero => exact absurd HG.out (by simp [mergeGo])
        | succ k1 =>
          have hn := HN.out
          have hg := HG.out
          simp only [mergeGo] at hg
          have p10 := (blk_cell ST.out.b6 10).trans rfl
          have q10 := (blk_cell ST.out.b7 10).trans rfl
          clear HG HN
          have hbel := ST.out.bel
          by_cases hi : i < (a.f10.length : Int)
          · have hi0 : 0 ≤ i := hn.1
            by_cases hj : j < (b.f10.length : Int)
            · have hj0 : 0 ≤ j := hn.2.2.1
              rw [if_pos (.inl hi)] at hg
              cases hl1 : less (rd_T25 a.f10 i).f0 (rd_T25 b.f10 j).f0
              · rw [if_neg (by rintro (h | ⟨_, h⟩); omega; rw [hl1] at h; cases h)] at hg
                cases heq : ((rd_T25 a.f10 i).f0.toList == (rd_T25 b.f10 j).f0.toList)
                · rw [if_pos (.inr (by unfold less at hl1; simp [more, hl1, heq]))] at hg
                  unfold less at hl1
                  obtain ⟨p, hp, hg⟩ := Option.bind_eq_some_iff.mp hg
                  obtain ⟨l3, ha, hg⟩ := Option.bind_eq_some_iff.mp hg
                  obtain ⟨hl, hl3⟩ := app_some ha
                  obtain ⟨ad, A10, c10, A11, c11, eA, x0, x1, x2, x3, x4, x5, x6, x7, x8, x9, x10, x11, l10, g10, l11, g11⟩ := nd_at hbel H1.out i hi0 hi
                  subst eA
                  obtain ⟨ae, B10, d10, B11, d11, eB, y0, y1, y2, y3, y4, y5, y6, y7, y8, y9, y10, y11, m10, o10, m11, o11⟩ := nd_at hbel H5.out j hj0 hj
                  subst eB
                  clear x1 x2 x3 x4 x5 x6 x7 x8 x9 x10 x11 l10 g10 l11 g11
                  clear y1 y2 y3 y4 y5 y6 y7 y8 y9 y10 y11 m10 o10 m11 o11
                  have HWj := Aside0.mk (show wrap64 (j + 1) = j + 1 by have := Kd.C_max H5.out; unfold wrap64; omega)
                  have HN1 := Aside0.mk (show 0 ≤ i ∧ i ≤ a.f10.length ∧ 0 ≤ j + 1 ∧ j + 1 ≤ b.f10.length by omega)
                  have di : decide (i < (a.f10.length : Int)) = true := decide_eq_true hi
                  have ei : (i == (a.f10.length : Int)) = false := by simp; omega
                  have ej : (j == (b.f10.length : Int)) = false := by simp; omega
                  have HP := Aside0.mk hp
                  have HL := Aside0.mk hl
                  have HL3 := Aside0.mk hl3
                  have HG2 := Aside0.mk hg
                  have HOr := Aside0.mk ST.out.row
                  have HBe := Aside0.mk ST.out.bel
                  clear hp ha hg hl hl3 hn hbel
                  replace hi0 := eq_true hi0
                  replace hi := eq_true hi
                  replace hj0 := eq_true hj0
                  replace hj := eq_true hj
                  go_wp2_with fail
                  go_quiet (fail)
                  revert nq
                  intro nqa
                  go_wp2_with fail
                  go_quiet (fail)
                  go_wp2_with fail
                  refine (Q2.viewdiff_joined.calls path _ p _ HP.out).mono ?_
                  rintro e w' ⟨rfl, ⟨nd, rfl⟩⟩
                  have ST5 := Aside0.mk ((ST.out.drewN (nqa + nq)).drewN nd)
                  clear ST HOr HBe p10 q10 x0 y0
                  generalize (wr.drewN (nqa + nq)).drewN nd = w5 at ST5 ⊢
                  have HOr := Aside0.mk ST5.out.row
                  have HBe := Aside0.mk ST5.out.bel
                  go_wp2_with (first | ((with_reducible refine gate_builtin (b := .append) (xs := #[.tmp 141, .tmp 151]) rfl ?_); at_builtin; refine Kd.R_append k34 (w0 := w0) w0.heap.size rfl (.tmp 141) (.tmp 151) 28 34 (.agg #[.int .i64 0, .string ⟨#[]⟩]) 24 rfl Tryz.underlying28 infoDif rfl (by decide) (by omega) u0 l2 ⟨1, p⟩ [.int .i64 1, .string p] (fun _ => True) (fun _ => False) rfl (by first | rfl | simp [Act.eval]) ?aP (fun _ hk => hk.elim) (fun _ _ => trivial) ?aO ?aB ?aS ?aL ?_; (case aP => exact k34_mkM _ _ _ _); (case aB => exact (by repeat (first | exact HBe.out | apply below_alloc | apply pw_below_drewN | apply below_drew1))); (case aO => exact (by repeat (first | exact HOr.out | apply Kd.R_alloc | apply Kd.R_drewN | apply Kd.R_drew))); (case aS => exact (below_size (by repeat (first | exact HBe.out | apply below_alloc | apply pw_below_drewN | apply below_drew1)))); (case aL => have := HL.out; omega); intro v1 w6 ho hb hg hat; rw [HL3.out] at ho; have ST6 := Aside0.mk (ST5.out.grown ho hb hg hat); clear ho hb hg hat))
                  go_roundg k1
                  case measure => omega
                  case rel => exact ⟨i, j + 1, l3, rfl, (by rw [HWj.out]), HN1, HG2, ST6⟩
                · rw [if_neg (by unfold less at hl1; rintro (h | h); omega; simp [more, hl1, heq] at h)] at hg
                  unfold less at hl1
                  obtain ⟨p, hp, hg⟩ := Option.bind_eq_some_iff.mp hg
                  obtain ⟨l3, ha, hg⟩ := Option.bind_eq_some_iff.mp hg
                  obtain ⟨ad, A10, c10, A11, c11, eA, x0, x1, x2, x3, x4, x5, x6, x7, x8, x9, x10, x11, l10, g10, l11, g11⟩ := nd_at hbel H1.out i hi0 hi
                  subst eA
                  obtain ⟨ae, B10, d10, B11, d11, eB, y0, y1, y2, y3, y4, y5, y6, y7, y8, y9, y10, y11, m10, o10, m11, o11⟩ := nd_at hbel H5.out j hj0 hj
                  subst eB
                  clear x1 x2 x3 x4 x5 x6 x7 x8 x9 x10 x11 l10 g10 l11 g11
                  clear y1 y2 y3 y4 y5 y6 y7 y8 y9 y10 y11 m10 o10 m11 o11
                  have HWi := Aside0.mk (show wrap64 (i + 1) = i + 1 by have := Kd.C_max H1.out; unfold wrap64; omega)
                  have HWj := Aside0.mk (show wrap64 (j + 1) = j + 1 by have := Kd.C_max H5.out; unfold wrap64; omega)
                  have HN1 := Aside0.mk (show 0 ≤ i + 1 ∧ i + 1 ≤ a.f10.length ∧ 0 ≤ j + 1 ∧ j + 1 ≤ b.f10.length by omega)
                  have di : decide (i < (a.f10.length : Int)) = true := decide_eq_true hi
                  have ei : (i == (a.f10.length : Int)) = false := by simp; omega
                  have ej : (j == (b.f10.length : Int)) = false := by simp; omega
                  have HP := Aside0.mk hp
                  have HC := Aside0.mk ha
                  have HG2 := Aside0.mk hg
                  have HI0 := Aside0.mk hi0
                  have HI := Aside0.mk hi
                  have HJ0 := Aside0.mk hj0
                  have HJ := Aside0.mk hj
                  clear hp ha hg hn hbel
                  replace hi0 := eq_true hi0
                  replace hi := eq_true hi
                  replace hj0 := eq_true hj0
                  replace hj := eq_true hj
                  go_wp2_with fail
                  go_quiet (fail)
                  revert nq
                  intro nqa
                  go_wp2_with fail
                  go_quiet (fail)
                  go_wp2_with fail
                  have ST5 := Aside0.mk ((ST.out.drewN nqa).drewN nq)
                  clear ST p10 q10 x0 y0
                  generalize (wr.drewN nqa).drewN nq = w5 at ST5 ⊢
                  have hbel := ST5.out.bel
                  obtain ⟨ad1, A10, c10, A11, c11, eA, x0, x1, x2, x3, x4, x5, x6, x7, x8, x9, x10, x11, l10, g10, l11, g11⟩ := nd_at hbel H1.out i HI0.out HI.out
                  cases eA
                  obtain ⟨ae1, B10, d10, B11, d11, eB, y0, y1, y2, y3, y4, y5, y6, y7, y8, y9, y10, y11, m10, o10, m11, o11⟩ := nd_at hbel H5.out j HJ0.out HJ.out
                  cases eB
                  have p10 := (blk_cell ST5.out.b6 10).trans rfl
                  have q10 := (blk_cell ST5.out.b7 10).trans rfl
                  have L10 := Aside0.mk l10
                  have G10 := Aside0.mk g10
                  have L11 := Aside0.mk l11
                  have G11 := Aside0.mk g11
                  have M10 := Aside0.mk m10
                  have O10 := Aside0.mk o10
                  have M11 := Aside0.mk m11
                  have O11 := Aside0.mk o11
                  clear l10 g10 l11 g11 m10 o10 m11 o11 hbel
                  refine wp_region_still_tail 19 (by kernel_rfl) (by kernel_rfl) ?_
                  simp only [List.take_succ_cons, List.take_zero, List.drop_succ_cons, List.drop_zero]
                  change wpStill _ _ w5.drew (fun a' => wpList _ _ _ _ a' w5.drew) _ _
                  repeat still_step
                  still_call (joined_same _ _ p _ HP.out)
                  repeat still_step
                  refine wpStill_nil ?_
                  have ST6 := Aside0.mk (ST5.out.below (below_drew1 (Below.refl _ _)))
                  clear x0 x1 x2 x3 x4 x5 x6 x7 x8 x9 x10 x11 y0 y1 y2 y3 y4 y5 y6 y7 y8 y9 y10 y11 p10 q10 ST5
                  generalize w5.drew = w6 at ST6 ⊢
                  go_wp2_with fail
                  refine (IH.out l2 l3 p (rd_T25 a.f10 i) (rd_T25 b.f10 j) u0 A10 c10 A11 c11 B10 d10 B11 d11 w0 w6 G10.out L10.out G11.out L11.out O10.out M10.out O11.out M11.out ST6.out.bel ST6.out.row HC.out).mono ?_
                  rintro e w7 ⟨v7, rfl, hr7, hb7, hk7, ht7⟩
                  have ST7 := Aside0.mk (ST6.out.step hr7 hb7 hk7 ht7)
                  clear hr7 hb7 hk7 ht7 ST6
                  go_wp2
                  go_roundg k1
                  case measure => omega
                  case rel => exact ⟨i + 1, j + 1, l3, (by rw [HWi.out]), (by rw [HWj.out]), HN1, HG2, ST7⟩
              · rw [if_pos (.inr ⟨hi, hl1⟩)] at hg
                unfold less at hl1
                obtain ⟨p, hp, hg⟩ := Option.bind_eq_some_iff.mp hg
                obtain ⟨l3, ha, hg⟩ := Option.bind_eq_some_iff.mp hg
                obtain ⟨hl, hl3⟩ := app_some ha
                obtain ⟨ad, A10, c10, A11, c11, eA, x0, x1, x2, x3, x4, x5, x6, x7, x8, x9, x10, x11, l10, g10, l11, g11⟩ := nd_at hbel H1.out i hi0 hi
                subst eA
                obtain ⟨ae, B10, d10, B11, d11, eB, y0, y1, y2, y3, y4, y5, y6, y7, y8, y9, y10, y11, m10, o10, m11, o11⟩ := nd_at hbel H5.out j hj0 hj
                subst eB
                clear x1 x2 x3 x4 x5 x6 x7 x8 x9 x10 x11 l10 g10 l11 g11
                clear y1 y2 y3 y4 y5 y6 y7 y8 y9 y10 y11 m10 o10 m11 o11
                have HWi := Aside0.mk (show wrap64 (i + 1) = i + 1 by have := Kd.C_max H1.out; unfold wrap64; omega)
                have HN1 := Aside0.mk (show 0 ≤ i + 1 ∧ i + 1 ≤ a.f10.length ∧ 0 ≤ j ∧ j ≤ b.f10.length by omega)
                have di : decide (i < (a.f10.length : Int)) = true := decide_eq_true hi
                have ej : (j == (b.f10.length : Int)) = false := by simp; omega
                have HP := Aside0.mk hp
                have HL := Aside0.mk hl
                have HL3 := Aside0.mk hl3
                have HG2 := Aside0.mk hg
                have HOr := Aside0.mk ST.out.row
                have HBe := Aside0.mk ST.out.bel
                clear hp ha hg hl hl3 hn hbel
                replace hi0 := eq_true hi0
                replace hi := eq_true hi
                replace hj0 := eq_true hj0
                replace hj := eq_true hj
                go_wp2_with fail
                go_quiet (fail)
                go_wp2_with fail
                refine (Q2.viewdiff_joined.calls path _ p _ HP.out).mono ?_
                rintro e w' ⟨rfl, ⟨nd, rfl⟩⟩
                have ST5 := Aside0.mk ((ST.out.drewN nq).drewN nd)
                clear ST HOr HBe p10 q10 x0 y0
                generalize (wr.drewN nq).drewN nd = w5 at ST5 ⊢
                have HOr := Aside0.mk ST5.out.row
                have HBe := Aside0.mk ST5.out.bel
                go_wp2_with (first | ((with_reducible refine gate_builtin (b := .append) (xs := #[.tmp 106, .tmp 116]) rfl ?_); at_builtin; refine Kd.R_append k34 (w0 := w0) w0.heap.size rfl (.tmp 106) (.tmp 116) 28 34 (.agg #[.int .i64 0, .string ⟨#[]⟩]) 24 rfl Tryz.underlying28 infoDif rfl (by decide) (by omega) u0 l2 ⟨0, p⟩ [.int .i64 0, .string p] (fun _ => True) (fun _ => False) rfl (by first | rfl | simp [Act.eval]) ?aP (fun _ hk => hk.elim) (fun _ _ => trivial) ?aO ?aB ?aS ?aL ?_; (case aP => exact k34_mkM _ _ _ _); (case aB => exact (by repeat (first | exact HBe.out | apply below_alloc | apply pw_below_drewN | apply below_drew1))); (case aO => exact (by repeat (first | exact HOr.out | apply Kd.R_alloc | apply Kd.R_drewN | apply Kd.R_drew))); (case aS => exact (below_size (by repeat (first | exact HBe.out | apply below_alloc | apply pw_below_drewN | apply below_drew1)))); (case aL => have := HL.out; omega); intro v1 w6 ho hb hg hat; rw [HL3.out] at ho; have ST6 := Aside0.mk (ST5.out.grown ho hb hg hat); clear ho hb hg hat))
                go_roundg k1
                case measure => omega
                case rel => exact ⟨i + 1, j, l3, (by rw [HWi.out]), rfl, HN1, HG2, ST6⟩
            · obtain rfl : j = b.f10.length := by omega
              rw [if_pos (.inl hi), if_pos (.inl rfl)] at hg
              obtain ⟨p, hp, hg⟩ := Option.bind_eq_some_iff.mp hg
              obtain ⟨l3, ha, hg⟩ := Option.bind_eq_some_iff.mp hg
              obtain ⟨hl, hl3⟩ := app_some ha
              obtain ⟨ad, A10, c10, A11, c11, eA, x0, x1, x2, x3, x4, x5, x6, x7, x8, x9, x10, x11, l10, g10, l11, g11⟩ := nd_at hbel H1.out i hi0 hi
              subst eA
              clear x1 x2 x3 x4 x5 x6 x7 x8 x9 x10 x11 l10 g10 l11 g11
              have HWi := Aside0.mk (show wrap64 (i + 1) = i + 1 by have := Kd.C_max H1.out; unfold wrap64; omega)
              have HN1 := Aside0.mk (show 0 ≤ i + 1 ∧ i + 1 ≤ a.f10.length ∧ 0 ≤ (b.f10.length : Int) ∧ (b.f10.length : Int) ≤ b.f10.length by omega)
              have di : decide (i < (a.f10.length : Int)) = true := decide_eq_true hi
              have HP := Aside0.mk hp
              have HL := Aside0.mk hl
              have HL3 := Aside0.mk hl3
              have HG2 := Aside0.mk hg
              have HOr := Aside0.mk ST.out.row
              have HBe := Aside0.mk ST.out.bel
              clear hp ha hg hl hl3 hn hbel
              clear hj
              replace hi0 := eq_true hi0
              replace hi := eq_true hi
              go_wp2_with fail
              go_quiet (fail)
              go_wp2_with fail
              refine (Q2.viewdiff_joined.calls path _ p _ HP.out).mono ?_
              rintro e w' ⟨rfl, ⟨nd, rfl⟩⟩
              have ST5 := Aside0.mk ((ST.out.drewN nq).drewN nd)
              clear ST HOr HBe p10 q10 x0
              generalize (wr.drewN nq).drewN nd = w5 at ST5 ⊢
              have HOr := Aside0.mk ST5.out.row
              have HBe := Aside0.mk ST5.out.bel
              go_wp2_with (first | ((with_reducible refine gate_builtin (b := .append) (xs := #[.tmp 106, .tmp 116]) rfl ?_); at_builtin; refine Kd.R_append k34 (w0 := w0) w0.heap.size rfl (.tmp 106) (.tmp 116) 28 34 (.agg #[.int .i64 0, .string ⟨#[]⟩]) 24 rfl Tryz.underlying28 infoDif rfl (by decide) (by omega) u0 l2 ⟨0, p⟩ [.int .i64 0, .string p] (fun _ => True) (fun _ => False) rfl (by first | rfl | simp [Act.eval]) ?aP (fun _ hk => hk.elim) (fun _ _ => trivial) ?aO ?aB ?aS ?aL ?_; (case aP => exact k34_mkM _ _ _ _); (case aB => exact (by repeat (first | exact HBe.out | apply below_alloc | apply pw_below_drewN | apply below_drew1))); (case aO => exact (by repeat (first | exact HOr.out | apply Kd.R_alloc | apply Kd.R_drewN | apply Kd.R_drew))); (case aS => exact (below_size (by repeat (first | exact HBe.out | apply below_alloc | apply pw_below_drewN | apply below_drew1)))); (case aL => have := HL.out; omega); intro v1 w6 ho hb hg hat; rw [HL3.out] at ho; have ST6 := Aside0.mk (ST5.out.grown ho hb hg hat); clear ho hb hg hat))
              go_roundg k1
              case measure => omega
              case rel => exact ⟨i + 1, b.f10.length, l3, (by rw [HWi.out]), rfl, HN1, HG2, ST6⟩
          · obtain rfl : i = a.f10.length := by omega
            have hi0 : (0 : Int) ≤ a.f10.length := by omega
            by_cases hj : j < (b.f10.length : Int)
            · have hj0 : 0 ≤ j := hn.2.2.1
              rw [if_pos (.inr hj), if_neg (by rintro (h | ⟨h, _⟩) <;> omega), if_pos (.inl rfl)] at hg
              obtain ⟨p, hp, hg⟩ := Option.bind_eq_some_iff.mp hg
              obtain ⟨l3, ha, hg⟩ := Option.bind_eq_some_iff.mp hg
              obtain ⟨hl, hl3⟩ := app_some ha
              obtain ⟨ae, B10, d10, B11, d11, eB, y0, y1, y2, y3, y4, y5, y6, y7, y8, y9, y10, y11, m10, o10, m11, o11⟩ := nd_at hbel H5.out j hj0 hj
              subst eB
              clear y1 y2 y3 y4 y5 y6 y7 y8 y9 y10 y11 m10 o10 m11 o11
              have HWj := Aside0.mk (show wrap64 (j + 1) = j + 1 by have := Kd.C_max H5.out; unfold wrap64; omega)
              have HN1 := Aside0.mk (show 0 ≤ (a.f10.length : Int) ∧ (a.f10.length : Int) ≤ a.f10.length ∧ 0 ≤ j + 1 ∧ j + 1 ≤ b.f10.length by omega)
              have dj : decide (j < (b.f10.length : Int)) = true := decide_eq_true hj
              have ej : (j == (b.f10.length : Int)) = false := by simp; omega
              have HP := Aside0.mk hp
              have HL := Aside0.mk hl
              have HL3 := Aside0.mk hl3
              have HG2 := Aside0.mk hg
              have HOr := Aside0.mk ST.out.row
              have HBe := Aside0.mk ST.out.bel
              clear hp ha hg hl hl3 hn hbel
              clear hi hi0
              replace hj0 := eq_true hj0
              replace hj := eq_true hj
              go_wp2_with fail
              go_quiet (fail)
              revert nq
              intro nqa
              go_wp2_with fail
              go_quiet (fail)
              go_wp2_with fail
              refine (Q2.viewdiff_joined.calls path _ p _ HP.out).mono ?_
              rintro e w' ⟨rfl, ⟨nd, rfl⟩⟩
              have ST5 := Aside0.mk ((ST.out.drewN (nqa + nq)).drewN nd)
              clear ST HOr HBe p10 q10 y0
              generalize (wr.drewN (nqa + nq)).drewN nd = w5 at ST5 ⊢
              have HOr := Aside0.mk ST5.out.row
              have HBe := Aside0.mk ST5.out.bel
              go_wp2_with (first | ((with_reducible refine gate_builtin (b := .append) (xs := #[.tmp 141, .tmp 151]) rfl ?_); at_builtin; refine Kd.R_append k34 (w0 := w0) w0.heap.size rfl (.tmp 141) (.tmp 151) 28 34 (.agg #[.int .i64 0, .string ⟨#[]⟩]) 24 rfl Tryz.underlying28 infoDif rfl (by decide) (by omega) u0 l2 ⟨1, p⟩ [.int .i64 1, .string p] (fun _ => True) (fun _ => False) rfl (by first | rfl | simp [Act.eval]) ?aP (fun _ hk => hk.elim) (fun _ _ => trivial) ?aO ?aB ?aS ?aL ?_; (case aP => exact k34_mkM _ _ _ _); (case aB => exact (by repeat (first | exact HBe.out | apply below_alloc | apply pw_below_drewN | apply below_drew1))); (case aO => exact (by repeat (first | exact HOr.out | apply Kd.R_alloc | apply Kd.R_drewN | apply Kd.R_drew))); (case aS => exact (below_size (by repeat (first | exact HBe.out | apply below_alloc | apply pw_below_drewN | apply below_drew1)))); (case aL => have := HL.out; omega); intro v1 w6 ho hb hg hat; rw [HL3.out] at ho; have ST6 := Aside0.mk (ST5.out.grown ho hb hg hat); clear ho hb hg hat))
              go_roundg k1
              case measure => omega
              case rel => exact ⟨a.f10.length, j + 1, l3, rfl, (by rw [HWj.out]), HN1, HG2, ST6⟩
            · obtain rfl : j = b.f10.length := by omega
              rw [if_neg (by omega)] at hg
              injection hg with hg
              subst hg
              clear hi hj hi0 hn hbel
              go_wp2
              go_ret
              exact ⟨_, rfl, ST.out.row, ST.out.bel, ST.out.kp, ST.out.rto⟩
    | succ k1 =>
      have hn := HN.out
      have hlt : i < 5 := by omega
      have HN1 := Aside0.mk (show i + 1 + k1 = 5 by omega)
      have hg := HG.out
      simp only [fdGo] at hg
      obtain ⟨t, ht, hg⟩ := Option.bind_eq_some_iff.mp hg
      have HTT := Aside0.mk ht
      have HG' := Aside0.mk hg
      have y0 : wr.cell? ⟨w.heap.size + 1 + 1, i * 2, none⟩ = some (.int .i64 (3 + i)) := (blk_cell FB.out (i * 2)).trans (fdVals_at i hlt).1
      have y1 : wr.cell? ⟨w.heap.size + 1 + 1, i * 2 + 1, none⟩ = some (.func (.func (fdFn i)) #[] #[]) := (blk_cell FB.out (i * 2 + 1)).trans (fdVals_at i hlt).2
      have heg := fd_enters i
      obtain ⟨p0, p1, p2, p3, p4, p5, p6, p7, p8, p9, p10, p11⟩ := nd_cells1 ST.out.b6
      obtain ⟨q0, q1, q2, q3, q4, q5, q6, q7, q8, q9, q10, q11⟩ := nd_cells1 ST.out.b7
      clear hn ht hg HG HN
      go_wp2_with fail
      have hb0 := (ST.out.alloc (.cells #[.int .i64 (3 + i), .func (.func (fdFn i)) #[] #[]] 80)).bel
      refine (fd_calls i a b t A c B d A' c' B' d' _ (Kd.C_below H1.out hb0) H2.out (Kd.C_below H3.out hb0) H4.out (Kd.C_below H5.out hb0) H6.out (Kd.C_below H7.out hb0) H8.out HTT.out).mono ?_
      rintro e w3 ⟨rfl, hb⟩
      have ST3 := Aside0.mk ((ST.out.alloc (.cells #[.int .i64 (3 + i), .func (.func (fdFn i)) #[] #[]] 80)).below hb)
      have hfv : w3.heap[wr.heap.size]? = some (.cells #[.int .i64 (3 + i), .func (.func (fdFn i)) #[] #[]] 80 (0, 0)) := (hb.block wr.heap.size (by simp)).trans (heap_alloc_new wr _)
      have z0 := (blk_cell hfv 0).trans rfl
      have FB3 := Aside0.mk (blk_kp (blk_kp FB.out ((Kp.refl (fun _ => False) wr).alloc (.cells #[.int .i64 (3 + i), .func (.func (fdFn i)) #[] #[]] 80)) (fun h => h)) (Kp.of_below hb (fun _ => False)) (fun h => h))
      clear hb0 hb hfv p0 p1 p2 p3 p4 p5 p6 p7 p8 p9 p10 p11 q0 q1 q2 q3 q4 q5 q6 q7 q8 q9 q10 q11 y0 y1 heg ST FB
      cases t with
      | false =>
        have hg := HG'.out
        simp only [Bool.false_eq_true, if_false] at hg
        have HG2 := Aside0.mk hg
        clear hg HG'
        go_wp2
        go_roundg k1
        case measure => omega
        case rel => exact ⟨i + 1, l1, by go_num, HN1, HG2, ST3, FB3⟩
      | true =>
        have hg := HG'.out
        simp only [if_true] at hg
        obtain ⟨l2, ha, hg⟩ := Option.bind_eq_some_iff.mp hg
        obtain ⟨hl, hl2⟩ := app_some ha
        have HL := Aside0.mk hl
        have HL2 := Aside0.mk hl2
        have HG2 := Aside0.mk hg
        have HOr := Aside0.mk ST3.out.row
        have HBe := Aside0.mk ST3.out.bel
        clear hg HG' ha hl hl2
        go_wp2_with (first | ((with_reducible refine gate_builtin (b := .append) (xs := #[.tmp 34, .tmp 39]) rfl ?_); at_builtin; refine Kd.R_append k34 (w0 := w0) w0.heap.size rfl (.tmp 34) (.tmp 39) 28 34 (.agg #[.int .i64 0, .string ⟨#[]⟩]) 24 rfl Tryz.underlying28 infoDif rfl (by decide) (by omega) u0 l1 ⟨3 + i, path⟩ [.int .i64 (3 + i), .string path] (fun _ => True) (fun _ => False) rfl (by first | rfl | simp [Act.eval]) ?aP (fun _ hk => hk.elim) (fun _ _ => trivial) ?aO ?aB ?aS ?aL ?_; (case aP => exact k34_mkM _ _ _ _); (case aB => exact (by repeat (first | exact HBe.out | apply below_alloc | apply pw_below_drewN | apply below_drew1))); (case aO => exact (by repeat (first | exact HOr.out | apply Kd.R_alloc | apply Kd.R_drewN | apply Kd.R_drew))); (case aS => exact (below_size (by repeat (first | exact HBe.out | apply below_alloc | apply pw_below_drewN | apply below_drew1)))); (case aL => have := HL.out; omega); intro v1 w4 ho hb hg hat; rw [HL2.out] at ho; have ST4 := Aside0.mk (ST3.out.grown ho hb hg hat); have FB4 := Aside0.mk (blk_kp FB3.out (Kp.of_grown hg) (fun e => Kd.R_ne ST3.out.row FB3.out (by decide) e.symm)); clear ho hb hg hat z0))
        go_roundg k1
        case measure => omega
        case rel => exact ⟨i + 1, l2, by go_num, HN1, HG2, ST4, FB4⟩
theorem compare_all : ∀ n, CmpAt n
  | 0 => fun l r path a b v A c B d A' c' B' d' w0 w h1 h2 h3 h4 h5 h6 h7 h8 hB hO h => by simp [cmpN] at h
  | n + 1 => fun l r path a b v A c B d A' c' B' d' w0 w h1 h2 h3 h4 h5 h6 h7 h8 hB hO h => by
    simp only [cmpN] at h
    split at h
    · rename_i hk
      obtain ⟨lm, hf, hm⟩ := Option.bind_eq_some_iff.mp h
      exact compare_step n ⟨compare_all n⟩ l r path a b v A c B d A' c' B' d' w0 w h1 h2 h3 h4 h5 h6 h7 h8 hB hO hk lm hf hm
    · rename_i hk
      exact compare_kinds n l r path a b v A c B d A' c' B' d' w0 w hB hO hk h
end Go.Proofs.YtabcnplfkfdeaaaGreatDoor
