/- Walks and plain laws that the claim stands on (part 20). -/
import Derived.Test.YtabcnplfkfdeaaaGreatDoorL19
namespace Go.Proofs.YtabcnplfkfdeaaaGreatDoor
open Go.RowKit Go.Proofs.YtabcnplfkfdeaaaGreatDoorW.PrintWords Go.Proofs.YtabcnplfkfdeaaaGreatDoorW.PrintLast Go.Proofs.YtabcnplfkfdeaaaGreatDoorW.PrintMore
set_option linter.unusedVariables false
set_option linter.unusedSimpArgs false
mutual
/-- The levels of a tree. -/
def dep : S25 → Nat
  | ⟨_, _, _, _, _, _, _, _, _, _, f10, _⟩ => depL f10 + 1
def depL : List S25 → Nat
  | [] => 0
  | k :: ks => max (dep k) (depL ks)
end
def validOf (x : S25) : Option Bool := Q2.sourcetree_Valid.f x.f0 x.f1 x.f2 x.f3 x.f4 x.f5 x.f6 x.f7 x.f8 x.f9 x.f10 x.f11
theorem valid_calls (x : S25) (r : Bool) (A : Option Addr) (c' : Nat) (B : Option Addr) (d : Nat) (w : World) (h1 : Kd.C k25 w A x.f10.length x.f10) (h2 : x.f10.length ≤ c') (h3 : Kd.C k44 w B x.f11.length x.f11) (h4 : x.f11.length ≤ d) (hT : Tabs w) (h : validOf x = some r) :
    Calls Tryz.prog 39 #[.agg #[.string x.f0, .int .i64 x.f1, .string x.f2, .string x.f3, .int .i64 x.f4, .int .i64 x.f5, .int .i64 x.f6, .int .i64 x.f7, .int .i64 x.f8, .int .i64 x.f9, .slice A x.f10.length c', .slice B x.f11.length d]] w fun e w' => e = .returned (.bool r) ∧ Below w.heap.size w w' :=
  Q2.sourcetree_Valid.calls _ _ _ _ _ _ _ _ _ _ A c' _ B d _ r w h1 h2 h3 h4 hT h
def cmpOf (a b : S25) : Option (List S34 × Int) := (validOf a).bind fun va => if va then (validOf b).bind fun vb => if vb then (cmpN (dep a) [] ⟨#[]⟩ a b).map fun l => (l, 0) else some ([], 1) else some ([], 1)
set_option maxRecDepth 100000 in
set_option maxHeartbeats 8000000 in
theorem cmp_calls (a b : S25) (r1 : List S34) (r2 : Int) (A : Option Addr) (c : Nat) (B : Option Addr) (d : Nat) (A' : Option Addr) (c' : Nat) (B' : Option Addr) (d' : Nat) (w : World)
    (h1 : Kd.C k25 w A a.f10.length a.f10) (h2 : a.f10.length ≤ c) (h3 : Kd.C k44 w B a.f11.length a.f11) (h4 : a.f11.length ≤ d) (h5 : Kd.C k25 w A' b.f10.length b.f10) (h6 : b.f10.length ≤ c') (h7 : Kd.C k44 w B' b.f11.length b.f11) (h8 : b.f11.length ≤ d') (hT : Tabs w) (h : cmpOf a b = some (r1, r2)) :
    Calls Tryz.prog 13 #[.agg #[.string a.f0, .int .i64 a.f1, .string a.f2, .string a.f3, .int .i64 a.f4, .int .i64 a.f5, .int .i64 a.f6, .int .i64 a.f7, .int .i64 a.f8, .int .i64 a.f9, .slice A a.f10.length c, .slice B a.f11.length d], .agg #[.string b.f0, .int .i64 b.f1, .string b.f2, .string b.f3, .int .i64 b.f4, .int .i64 b.f5, .int .i64 b.f6, .int .i64 b.f7, .int .i64 b.f8, .int .i64 b.f9, .slice A' b.f10.length c', .slice B' b.f11.length d']] w fun e w' => ∃ v0_ : Value, e = .returned (.tuple #[v0_, .int .i64 r2]) ∧ Kd.R k34 34 w' w.heap.size (fun _ => True) v0_ r1 ∧ Below w.heap.size w w' := by
  unfold cmpOf at h
  obtain ⟨va, hva, h⟩ := Option.bind_eq_some_iff.mp h
  have H1 := Aside0.mk h1
  have H2 := Aside0.mk h2
  have H3 := Aside0.mk h3
  have H4 := Aside0.mk h4
  have H5 := Aside0.mk h5
  have H6 := Aside0.mk h6
  have H7 := Aside0.mk h7
  have H8 := Aside0.mk h8
  have HT := Aside0.mk hT
  have HVA := Aside0.mk hva
  have HR := Aside0.mk h
  clear h1 h2 h3 h4 h5 h6 h7 h8 hT hva h
  have hu25 := Tryz.underlying25
  have hu34 := Tryz.underlying34
  go_enter Tryz.func13, Tryz.ntmps13
  go_wp2_with fail
  obtain ⟨w2, h2⟩ : ∃ w2, w2 = (w.alloc (.cells #[.string a.f0, .int .i64 a.f1, .string a.f2, .string a.f3, .int .i64 a.f4, .int .i64 a.f5, .int .i64 a.f6, .int .i64 a.f7, .int .i64 a.f8, .int .i64 a.f9, .slice A a.f10.length c, .slice B a.f11.length d] 25)).alloc (.cells #[.string b.f0, .int .i64 b.f1, .string b.f2, .string b.f3, .int .i64 b.f4, .int .i64 b.f5, .int .i64 b.f6, .int .i64 b.f7, .int .i64 b.f8, .int .i64 b.f9, .slice A' b.f10.length c', .slice B' b.f11.length d'] 25) := ⟨_, rfl⟩
  have hB2 : Below w.heap.size w w2 := by rw [h2]; exact below_alloc (below_alloc (Below.refl _ _) _) _
  have b6 : w2.heap[w.heap.size]? = some (.cells #[.string a.f0, .int .i64 a.f1, .string a.f2, .string a.f3, .int .i64 a.f4, .int .i64 a.f5, .int .i64 a.f6, .int .i64 a.f7, .int .i64 a.f8, .int .i64 a.f9, .slice A a.f10.length c, .slice B a.f11.length d] 25 (0, 0)) := by rw [h2]; exact blk_alloc (heap_alloc_new w _) _
  have b7 : w2.heap[w.heap.size + 1]? = some (.cells #[.string b.f0, .int .i64 b.f1, .string b.f2, .string b.f3, .int .i64 b.f4, .int .i64 b.f5, .int .i64 b.f6, .int .i64 b.f7, .int .i64 b.f8, .int .i64 b.f9, .slice A' b.f10.length c', .slice B' b.f11.length d'] 25 (0, 0)) := by
    have := heap_alloc_new (w.alloc (.cells #[.string a.f0, .int .i64 a.f1, .string a.f2, .string a.f3, .int .i64 a.f4, .int .i64 a.f5, .int .i64 a.f6, .int .i64 a.f7, .int .i64 a.f8, .int .i64 a.f9, .slice A a.f10.length c, .slice B a.f11.length d] 25)) (.cells #[.string b.f0, .int .i64 b.f1, .string b.f2, .string b.f3, .int .i64 b.f4, .int .i64 b.f5, .int .i64 b.f6, .int .i64 b.f7, .int .i64 b.f8, .int .i64 b.f9, .slice A' b.f10.length c', .slice B' b.f11.length d'] 25)
    rw [h2]
    simpa using this
  rw [← h2]
  clear h2
  refine (valid_calls a va A c B d w2 (Kd.C_below H1.out hB2) H2.out (Kd.C_below H3.out hB2) H4.out (HT.out.below hB2) HVA.out).mono ?_
  rintro e w3 ⟨rfl, hb⟩
  have hB3 := below_step hB2 hb
  have c6 := blk_kp b6 (Kp.of_below hb (fun _ => False)) (fun h => h)
  have c7 := blk_kp b7 (Kp.of_below hb (fun _ => False)) (fun h => h)
  have B3 := Aside0.mk hB3
  clear hb hB2 hB3 b6 b7
  obtain ⟨z0, z1, z2, z3, z4, z5, z6, z7, z8, z9, z10, z11⟩ := nd_cells0 c6
  obtain ⟨y0, y1, y2, y3, y4, y5, y6, y7, y8, y9, y10, y11⟩ := nd_cells0 c7
  cases va with
  | false =>
    have hr := HR.out
    simp only [Bool.false_eq_true, if_false, Option.some.injEq, Prod.mk.injEq] at hr
    obtain ⟨rfl, rfl⟩ := hr
    clear HR
    go_wp2
    go_ret2
    exact ⟨_, rfl, Kd.R_nil _ _ _ _ _, B3.out⟩
  | true =>
    have hr := HR.out
    simp only [if_true] at hr
    obtain ⟨vb, hvb, hr⟩ := Option.bind_eq_some_iff.mp hr
    have HVB := Aside0.mk hvb
    have HR2 := Aside0.mk hr
    clear hr hvb HR
    go_wp2_with fail
    clear z0 z1 z2 z3 z4 z5 z6 z7 z8 z9 z10 z11 y0 y1 y2 y3 y4 y5 y6 y7 y8 y9 y10 y11
    refine (valid_calls b vb A' c' B' d' w3 (Kd.C_below H5.out B3.out) H6.out (Kd.C_below H7.out B3.out) H8.out (HT.out.below B3.out) HVB.out).mono ?_
    rintro e w4 ⟨rfl, hb⟩
    have B4 := Aside0.mk (below_step B3.out hb)
    have d6 := blk_kp c6 (Kp.of_below hb (fun _ => False)) (fun h => h)
    have d7 := blk_kp c7 (Kp.of_below hb (fun _ => False)) (fun h => h)
    clear hb c6 c7
    obtain ⟨z0, z1, z2, z3, z4, z5, z6, z7, z8, z9, z10, z11⟩ := nd_cells0 d6
    obtain ⟨y0, y1, y2, y3, y4, y5, y6, y7, y8, y9, y10, y11⟩ := nd_cells0 d7
    cases vb with
    | false =>
      have hr := HR2.out
      simp only [Bool.false_eq_true, if_false, Option.some.injEq, Prod.mk.injEq] at hr
      obtain ⟨rfl, rfl⟩ := hr
      clear HR2
      go_wp2
      go_ret2
      exact ⟨_, rfl, Kd.R_nil _ _ _ _ _, B4.out⟩
    | true =>
      have hr := HR2.out
      simp only [if_true] at hr
      obtain ⟨l, hl, hr⟩ := Option.map_eq_some_iff.mp hr
      simp only [Prod.mk.injEq] at hr
      obtain ⟨rfl, rfl⟩ := hr
      have HL := Aside0.mk hl
      clear hl HR2
      go_wp2_with fail
      clear z0 z1 z2 z3 z4 z5 z6 z7 z8 z9 z10 z11 y0 y1 y2 y3 y4 y5 y6 y7 y8 y9 y10 y11 d6 d7
      refine (compare_all (dep a) [] l ⟨#[]⟩ a b (.slice none 0 0) A c B d A' c' B' d' w w4 H1.out H2.out H3.out H4.out H5.out H6.out H7.out H8.out B4.out (Kd.R_nil _ _ _ _ _) HL.out).mono ?_
      rintro e w5 ⟨v, rfl, hr, hb, -, -⟩
      have HR5 := Aside0.mk hr
      have B5 := Aside0.mk hb
      clear hr hb
      go_wp2
      go_ret2
      exact ⟨_, rfl, HR5.out, B5.out⟩
def viewdiff_Compare.f (a0_0 : ByteArray) (a0_1 : Int) (a0_2 : ByteArray) (a0_3 : ByteArray) (a0_4 : Int) (a0_5 : Int) (a0_6 : Int) (a0_7 : Int) (a0_8 : Int) (a0_9 : Int) (l0_10 : List S25) (l0_11 : List S44) (a1_0 : ByteArray) (a1_1 : Int) (a1_2 : ByteArray) (a1_3 : ByteArray) (a1_4 : Int) (a1_5 : Int) (a1_6 : Int) (a1_7 : Int) (a1_8 : Int) (a1_9 : Int) (l1_10 : List S25) (l1_11 : List S44) : Option (List S34 × Int) := cmpOf ⟨a0_0, a0_1, a0_2, a0_3, a0_4, a0_5, a0_6, a0_7, a0_8, a0_9, l0_10, l0_11⟩ ⟨a1_0, a1_1, a1_2, a1_3, a1_4, a1_5, a1_6, a1_7, a1_8, a1_9, l1_10, l1_11⟩
theorem viewdiff_Compare.calls (a0_0 : ByteArray) (a0_1 : Int) (a0_2 : ByteArray) (a0_3 : ByteArray) (a0_4 : Int) (a0_5 : Int) (a0_6 : Int) (a0_7 : Int) (a0_8 : Int) (a0_9 : Int) (A0_10 : Option Addr) (c0_10 : Nat) (l0_10 : List S25) (A0_11 : Option Addr) (c0_11 : Nat) (l0_11 : List S44) (a1_0 : ByteArray) (a1_1 : Int) (a1_2 : ByteArray) (a1_3 : ByteArray) (a1_4 : Int) (a1_5 : Int) (a1_6 : Int) (a1_7 : Int) (a1_8 : Int) (a1_9 : Int) (A1_10 : Option Addr) (c1_10 : Nat) (l1_10 : List S25) (A1_11 : Option Addr) (c1_11 : Nat) (l1_11 : List S44) (r1 : List S34) (r2 : Int) (w : World)
    (hr0_10 : Kd.C k25 w A0_10 l0_10.length l0_10) (hc0_10 : l0_10.length ≤ c0_10) (hr0_11 : Kd.C k44 w A0_11 l0_11.length l0_11) (hc0_11 : l0_11.length ≤ c0_11) (hr1_10 : Kd.C k25 w A1_10 l1_10.length l1_10) (hc1_10 : l1_10.length ≤ c1_10) (hr1_11 : Kd.C k44 w A1_11 l1_11.length l1_11) (hc1_11 : l1_11.length ≤ c1_11) (hT : Tabs w)
    (h : viewdiff_Compare.f a0_0 a0_1 a0_2 a0_3 a0_4 a0_5 a0_6 a0_7 a0_8 a0_9 l0_10 l0_11 a1_0 a1_1 a1_2 a1_3 a1_4 a1_5 a1_6 a1_7 a1_8 a1_9 l1_10 l1_11 = some (r1, r2)) :
    Calls Tryz.prog 13 #[.agg #[.string a0_0, .int .i64 a0_1, .string a0_2, .string a0_3, .int .i64 a0_4, .int .i64 a0_5, .int .i64 a0_6, .int .i64 a0_7, .int .i64 a0_8, .int .i64 a0_9, .slice A0_10 l0_10.length c0_10, .slice A0_11 l0_11.length c0_11], .agg #[.string a1_0, .int .i64 a1_1, .string a1_2, .string a1_3, .int .i64 a1_4, .int .i64 a1_5, .int .i64 a1_6, .int .i64 a1_7, .int .i64 a1_8, .int .i64 a1_9, .slice A1_10 l1_10.length c1_10, .slice A1_11 l1_11.length c1_11]] w fun e w' => ∃ v0_ : Value, e = .returned (.tuple #[v0_, .int .i64 r2]) ∧ Kd.R k34 34 w' w.heap.size (fun _ => True) v0_ r1 ∧ Below w.heap.size w w' :=
  cmp_calls ⟨a0_0, a0_1, a0_2, a0_3, a0_4, a0_5, a0_6, a0_7, a0_8, a0_9, l0_10, l0_11⟩ ⟨a1_0, a1_1, a1_2, a1_3, a1_4, a1_5, a1_6, a1_7, a1_8, a1_9, l1_10, l1_11⟩ r1 r2 A0_10 c0_10 A0_11 c0_11 A1_10 c1_10 A1_11 c1_11 w hr0_10 hc0_10 hr0_11 hc0_11 hr1_10 hc1_10 hr1_11 hc1_11 hT h
end Go.Proofs.YtabcnplfkfdeaaaGreatDoor
