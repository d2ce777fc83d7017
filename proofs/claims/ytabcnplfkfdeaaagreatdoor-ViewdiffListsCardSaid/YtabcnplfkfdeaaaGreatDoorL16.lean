/- Walks and plain laws that the claim stands on (part 16). -/
import Derived.Test.YtabcnplfkfdeaaaGreatDoorL14
import Derived.Test.YtabcnplfkfdeaaaGreatDoorL15
namespace Go.Proofs.YtabcnplfkfdeaaaGreatDoor
open Go.RowKit Go.Proofs.YtabcnplfkfdeaaaGreatDoorW.PrintWords Go.Proofs.YtabcnplfkfdeaaaGreatDoorW.PrintLast Go.Proofs.YtabcnplfkfdeaaaGreatDoorW.PrintMore
set_option linter.unusedVariables false
set_option linter.unusedSimpArgs false
def ruleAt (k : Nat) (x : S25) (level : Int) : Nat → Option Int
  | 0 => Q.sourcetree_rule_kind.f x.f0 x.f1 x.f2 x.f3 x.f4 x.f5 x.f6 x.f7 x.f8 x.f9 x.f10 x.f11 level
  | 1 => Q.sourcetree_rule_name.f x.f0 x.f1 x.f2 x.f3 x.f4 x.f5 x.f6 x.f7 x.f8 x.f9 x.f10 x.f11 level
  | 2 => Q.sourcetree_rule_parts.f x.f0 x.f1 x.f2 x.f3 x.f4 x.f5 x.f6 x.f7 x.f8 x.f9 x.f10 x.f11 level
  | 3 => Q.sourcetree_rule_target.f k x.f0 x.f1 x.f2 x.f3 x.f4 x.f5 x.f6 x.f7 x.f8 x.f9 x.f10 x.f11 level
  | 4 => sourcetree_rule_numbers.f x.f0 x.f1 x.f2 x.f3 x.f4 x.f5 x.f6 x.f7 x.f8 x.f9 x.f10 x.f11 level
  | 5 => Q.sourcetree_rule_sizes.f k x.f0 x.f1 x.f2 x.f3 x.f4 x.f5 x.f6 x.f7 x.f8 x.f9 x.f10 x.f11 level
  | 6 => Q.sourcetree_rule_streams.f k x.f0 x.f1 x.f2 x.f3 x.f4 x.f5 x.f6 x.f7 x.f8 x.f9 x.f10 x.f11 level
  | _ => Q.sourcetree_rule_kids.f k x.f0 x.f1 x.f2 x.f3 x.f4 x.f5 x.f6 x.f7 x.f8 x.f9 x.f10 x.f11 level
def ruleFn : Nat → FuncId
  | 0 => 78
  | 1 => 79
  | 2 => 80
  | 3 => 81
  | 4 => 82
  | 5 => 83
  | 6 => 84
  | _ => 85
def rulesGo (k : Nat) (x : S25) (level : Int) (i : Nat) : Nat → Option Int
  | 0 => some 0
  | m + 1 => (ruleAt k x level i).bind fun e => if e = 0 then rulesGo k x level (i + 1) m else some e
def rnd (x : S25) : Nat := x.f3.size + x.f10.length + x.f11.length + 10
def checkStep (s : ByteArray × Int) (x : S25) (path : ByteArray) (level : Int) : Option (Bool × (ByteArray × Int)) :=
  (rulesGo (rnd x) x level 0 8).map fun e => if e = 0 then (true, (s.1, 0)) else (false, (path, e))
theorem rule_enters (i : Nat) (args : Array Value) (w : World) : (callFunc (ruleFn i) args).run Tryz.prog w = .ok (.enter (ruleFn i) args) w := by
  match i with
  | 0 => exact enters_of Tryz.func78 (by kernel_rfl) rfl args w
  | 1 => exact enters_of Tryz.func79 (by kernel_rfl) rfl args w
  | 2 => exact enters_of Tryz.func80 (by kernel_rfl) rfl args w
  | 3 => exact enters_of Tryz.func81 (by kernel_rfl) rfl args w
  | 4 => exact enters_of Tryz.func82 (by kernel_rfl) rfl args w
  | 5 => exact enters_of Tryz.func83 (by kernel_rfl) rfl args w
  | 6 => exact enters_of Tryz.func84 (by kernel_rfl) rfl args w
  | n + 7 => exact enters_of Tryz.func85 (by kernel_rfl) rfl args w
theorem rule_calls (k : Nat) (x : S25) (level : Int) (i : Nat) (r : Int) (A : Option Addr) (c' : Nat) (B : Option Addr) (d : Nat) (w : World) (hr10 : Kd.C k25 w A x.f10.length x.f10) (hc10 : x.f10.length ≤ c') (hr11 : Kd.C k44 w B x.f11.length x.f11) (hc11 : x.f11.length ≤ d) (hT : Tabs w) (h : ruleAt k x level i = some r) :
    Calls Tryz.prog (ruleFn i) #[.agg #[.string x.f0, .int .i64 x.f1, .string x.f2, .string x.f3, .int .i64 x.f4, .int .i64 x.f5, .int .i64 x.f6, .int .i64 x.f7, .int .i64 x.f8, .int .i64 x.f9, .slice A x.f10.length c', .slice B x.f11.length d, .int .i64 level]] w fun e w' => e = .returned (.int .i64 r) ∧ Below w.heap.size w w' := by
  match i, h with
  | 0, h => exact Q.sourcetree_rule_kind.calls _ _ _ _ _ _ _ _ _ _ A c' _ B d _ _ r w hr10 hc10 hr11 hc11 h
  | 1, h => exact Q.sourcetree_rule_name.calls _ _ _ _ _ _ _ _ _ _ A c' _ B d _ _ r w hr10 hc10 hr11 hc11 hT h
  | 2, h => exact Q.sourcetree_rule_parts.calls _ _ _ _ _ _ _ _ _ _ A c' _ B d _ _ r w hr10 hc10 hr11 hc11 h
  | 3, h => exact Q.sourcetree_rule_target.calls k _ _ _ _ _ _ _ _ _ _ A c' _ B d _ _ r w hr10 hc10 hr11 hc11 hT h
  | 4, h => exact sourcetree_rule_numbers.calls _ _ _ _ _ _ _ _ _ _ A c' _ B d _ _ r w hr10 hc10 hr11 hc11 h
  | 5, h => exact Q.sourcetree_rule_sizes.calls k _ _ _ _ _ _ _ _ _ _ A c' _ B d _ _ r w hr10 hc10 hr11 hc11 h
  | 6, h => exact Q.sourcetree_rule_streams.calls k _ _ _ _ _ _ _ _ _ _ A c' _ B d _ _ r w hr10 hc10 hr11 hc11 hT h
  | n + 7, h => exact Q.sourcetree_rule_kids.calls k _ _ _ _ _ _ _ _ _ _ A c' _ B d _ _ r w hr10 hc10 hr11 hc11 h
def ruleVals (v : Value) : Array Value := #[.func (.func 78) #[v] #[], .func (.func 79) #[v] #[], .func (.func 80) #[v] #[], .func (.func 81) #[v] #[], .func (.func 82) #[v] #[], .func (.func 83) #[v] #[], .func (.func 84) #[v] #[], .func (.func 85) #[v] #[]]
theorem ruleVals_at (v : Value) (i : Nat) (h : i < 8) : (ruleVals v)[i]? = some (.func (.func (ruleFn i)) #[v] #[]) := by
  match i, h with
  | 0, _ => rfl
  | 1, _ => rfl
  | 2, _ => rfl
  | 3, _ => rfl
  | 4, _ => rfl
  | 5, _ => rfl
  | 6, _ => rfl
  | 7, _ => rfl
def CheckInv (ga ge : Nat) (s : ByteArray × Int) (w : World) : Prop := IsVar ge 29 (.int .i64 s.2) w ∧ IsVar ga 9 (.string s.1) w
set_option maxRecDepth 100000 in
set_option maxHeartbeats 4000000 in
theorem check_visits (ga ge : Nat) (w0 : World) (hT : Tabs w0) (ha : w0.heap.size ≤ ga) (he : w0.heap.size ≤ ge) (hne : ga ≠ ge) : Visits 77 #[.pointer (some ⟨ge, 0, none⟩), .pointer (some ⟨ga, 0, none⟩)] (fun j => j = ga ∨ j = ge) w0 (CheckInv ga ge) checkStep where
  enters := enters_of Tryz.func77 (by kernel_rfl) rfl
  new := by rintro j (rfl | rfl) <;> assumption
  keep := fun s W W' h hk => ⟨h.1.keep hk, h.2.keep hk⟩
  call := by
    intro s x path level r A c' B d W hB hI hr10 hc10 hr11 hc11 h
    obtain ⟨sp, se⟩ := s
    unfold checkStep at h
    obtain ⟨e, hgo, hr⟩ := Option.map_eq_some_iff.mp h
    have HGO := Aside0.mk hgo
    have HRR := Aside0.mk hr
    have HI := Aside0.mk hI
    have LE := Aside0.mk hI.1.lt
    have LA := Aside0.mk hI.2.lt
    have HNE := Aside0.mk hne
    have HB := Aside0.mk hB
    have HT := Aside0.mk hT
    have HR10 := Aside0.mk hr10
    have HR11 := Aside0.mk hr11
    have HC10 := Aside0.mk hc10
    have HC11 := Aside0.mk hc11
    clear hr10 hr11 hc10 hc11 h hgo hr hI hB
    have hu25 := Tryz.underlying25
    have hu97 := Tryz.underlying97
    simp only [List.append_toArray, List.cons_append, List.nil_append]
    go_enter Tryz.func77, Tryz.ntmps77
    go_wp2_with fail
    obtain ⟨V, hV⟩ : ∃ V : Value, V = .agg #[.string x.f0, .int .i64 x.f1, .string x.f2, .string x.f3, .int .i64 x.f4, .int .i64 x.f5, .int .i64 x.f6, .int .i64 x.f7, .int .i64 x.f8, .int .i64 x.f9, .slice A x.f10.length c', .slice B x.f11.length d, .int .i64 level] := ⟨_, rfl⟩
    obtain ⟨w2, h2⟩ : ∃ w2, w2 = ((W.alloc (.cells #[.string x.f0, .int .i64 x.f1, .string x.f2, .string x.f3, .int .i64 x.f4, .int .i64 x.f5, .int .i64 x.f6, .int .i64 x.f7, .int .i64 x.f8, .int .i64 x.f9, .slice A x.f10.length c', .slice B x.f11.length d] 25)).alloc (.cells #[.string x.f0, .int .i64 x.f1, .string x.f2, .string x.f3, .int .i64 x.f4, .int .i64 x.f5, .int .i64 x.f6, .int .i64 x.f7, .int .i64 x.f8, .int .i64 x.f9, .slice A x.f10.length c', .slice B x.f11.length d, .int .i64 level] 97)).alloc (.cells (ruleVals V) 98) := ⟨_, rfl⟩
    have hk2 : Kp (fun _ => False) W w2 := by rw [h2]; exact (((Kp.refl _ _).alloc _).alloc _).alloc _
    have HK2 := Aside0.mk (show Kp (fun j => j = ga ∨ j = ge) W w2 from (Kp.refl _ _).then_ hk2 (fun _ h => h.elim))
    have HI2 := Aside0.mk (show CheckInv ga ge (sp, se) w2 from ⟨HI.out.1.keep hk2, HI.out.2.keep hk2⟩)
    clear hk2
    have hbox : w2.heap[W.heap.size + 1 + 1]? = some (.cells (ruleVals V) 98 (0, 0)) := by
      have := heap_alloc_new ((W.alloc (.cells #[.string x.f0, .int .i64 x.f1, .string x.f2, .string x.f3, .int .i64 x.f4, .int .i64 x.f5, .int .i64 x.f6, .int .i64 x.f7, .int .i64 x.f8, .int .i64 x.f9, .slice A x.f10.length c', .slice B x.f11.length d] 25)).alloc (.cells #[.string x.f0, .int .i64 x.f1, .string x.f2, .string x.f3, .int .i64 x.f4, .int .i64 x.f5, .int .i64 x.f6, .int .i64 x.f7, .int .i64 x.f8, .int .i64 x.f9, .slice A x.f10.length c', .slice B x.f11.length d, .int .i64 level] 97)) (.cells (ruleVals V) 98)
      rw [h2]
      simpa using this
    rw [← hV]
    have h3 := h2
    simp only [ruleVals] at h3
    rw [← h3]
    clear h3 h2
    have HB2 := Aside0.mk (Kp.after HB.out HK2.out (by rintro j (rfl | rfl) <;> assumption))
    have HX := Aside0.mk hbox
    have HVV := Aside0.mk hV
    clear hbox hV
    go_loopg [33] 8 (fun kq v33 w' => ∃ (i : Nat) (e1 : Int), v33 = .int .i64 i ∧ Aside0 (i + kq = 8) ∧ Aside0 (rulesGo (rnd x) x level i kq = some e) ∧ Aside0 (i = 0 ∨ e1 = 0) ∧ Aside0 (CheckInv ga ge (sp, e1) w') ∧ Aside0 (w'.heap[W.heap.size + 1 + 1]? = some (.cells (ruleVals V) 98 (0, 0))) ∧ Aside0 (Kp (fun j => j = ga ∨ j = ge) W w'))
    case atStart => exact ⟨0, se, rfl, ⟨rfl⟩, HGO, ⟨.inl rfl⟩, HI2, HX, HK2⟩
    case round =>
      clear HGO HI2 HX HK2 HI
      obtain ⟨i, e1, rfl, HN, HGO, HE, HI, HX, HK⟩ := hrel
      cases gk with
      | zero =>
        have hn := HN.out
        obtain rfl : i = 8 := by omega
        have hgo := HGO.out
        simp only [rulesGo, Option.some.injEq] at hgo
        subst hgo
        have hr := HRR.out
        simp only [if_true] at hr
        subst hr
        obtain rfl : e1 = 0 := by rcases HE.out with h | h <;> omega
        clear hn HRR HGO HE HN HX
        go_wp2
        go_ret
        exact ⟨rfl, HI.out, HK.out⟩
      | succ k1 =>
        have hn := HN.out
        have hlt : i < 8 := by omega
        have hgo := HGO.out
        simp only [rulesGo] at hgo
        obtain ⟨e2, hr2, hgo⟩ := Option.bind_eq_some_iff.mp hgo
        have hcell : wr.cell? ⟨W.heap.size + 1 + 1, i, none⟩ = some (.func (.func (ruleFn i)) #[V] #[]) := (blk_cell HX.out i).trans (ruleVals_at V i hlt)
        have hrc := fun w h1 h2 h3 => rule_calls (rnd x) x level i e2 A c' B d w h1 HC10.out h2 HC11.out h3 hr2
        rw [← HVV.out] at hrc
        have HRC := Aside0.mk hrc
        have HGO' := Aside0.mk hgo
        have hbr := Kp.after HB.out HK.out (by rintro j (rfl | rfl) <;> assumption)
        have HBR := Aside0.mk hbr
        have heg := rule_enters i
        have HN1 := Aside0.mk (show i + 1 + k1 = 8 by omega)
        clear hgo hr2 hrc hn HGO HE HN hbr
        go_wp2_with fail
        refine (HRC.out _ (Kd.C_below HR10.out HBR.out) (Kd.C_below HR11.out HBR.out) (HT.out.below HBR.out)).mono ?_
        rintro e' w3 ⟨rfl, hb⟩
        have HK3 := Aside0.mk (HK.out.below hb)
        have hi1 : IsVar ge 29 (.int .i64 e1) w3 := HI.out.1.keep (Kp.of_below hb _)
        have hi2 : IsVar ga 9 (.string sp) w3 := HI.out.2.keep (Kp.of_below hb _)
        have HX3 := Aside0.mk (blk_kp HX.out (Kp.of_below hb (fun _ => False)) (fun h => h))
        have c1 := hi1.cell
        have f1 := hi1.free
        have HI1 := Aside0.mk hi1
        have HI2 := Aside0.mk hi2
        clear hi1 hi2 hb heg hcell HX HI
        by_cases h0 : e2 = 0
        · have hgo := HGO'.out
          rw [if_pos h0] at hgo
          have HGO := Aside0.mk hgo
          have h0b : (e2 != 0) = false := by simp [h0]
          have H0 := Aside0.mk h0
          clear hgo h0 HGO'
          have KS := Aside0.mk (HK3.out.setCell (p := ⟨ge, 0, none⟩) (.inl (.inr rfl)) (.int .i64 e2))
          have hne' := LE.out
          have XS := Aside0.mk (blk_far HX3.out (p := ⟨ge, 0, none⟩) (show W.heap.size + 1 + 1 ≠ ge by omega) (.int .i64 e2))
          have IS := Aside0.mk (show CheckInv ga ge (sp, e2) (w3.setCell ⟨ge, 0, none⟩ (.int .i64 e2)) from ⟨HI1.out.set _, blk_far HI2.out (p := ⟨ge, 0, none⟩) HNE.out _⟩)
          clear hne'
          go_wp2
          go_roundg k1
          case measure => omega
          case rel => exact ⟨i + 1, e2, by go_num, HN1, HGO, ⟨.inr H0.out⟩, IS, XS, KS⟩
        · have hgo := HGO'.out
          rw [if_neg h0] at hgo
          injection hgo with hgo
          subst hgo
          have hr := HRR.out
          rw [if_neg h0] at hr
          subst hr
          have h0b : (e2 != 0) = true := by simp [h0]
          have IS := HI2.out
          have HI3 : IsVar ga 9 (.string sp) (w3.setCell ⟨ge, 0, none⟩ (.int .i64 e2)) := blk_far HI2.out (p := ⟨ge, 0, none⟩) HNE.out _
          have c2 := HI3.cell
          have f2 := HI3.free
          have KS := Aside0.mk ((HK3.out.setCell (p := ⟨ge, 0, none⟩) (.inl (.inr rfl)) (.int .i64 e2)).setCell (p := ⟨ga, 0, none⟩) (.inl (.inl rfl)) (.string path))
          have IS := Aside0.mk (show CheckInv ga ge (path, e2) ((w3.setCell ⟨ge, 0, none⟩ (.int .i64 e2)).setCell ⟨ga, 0, none⟩ (.string path)) from ⟨blk_far (HI1.out.set _) (p := ⟨ga, 0, none⟩) (fun h => HNE.out h.symm) _, HI3.set _⟩)
          clear h0 HGO' HI3
          go_wp2
          go_ret
          exact ⟨rfl, IS.out, KS.out⟩
def checkOf (x : S25) : Option (ByteArray × Int) := (countOf x).bind fun c => if 256 < c then some (⟨#[]⟩, 7) else (wk checkStep (⟨#[]⟩, 0) x ⟨#[]⟩ 1).map (·.2)
set_option maxRecDepth 100000 in
set_option maxHeartbeats 4000000 in
theorem check_calls (x : S25) (r1 : ByteArray) (r2 : Int) (A : Option Addr) (c' : Nat) (B : Option Addr) (d : Nat) (w : World) (hr10 : Kd.C k25 w A x.f10.length x.f10) (hc10 : x.f10.length ≤ c') (hr11 : Kd.C k44 w B x.f11.length x.f11) (hc11 : x.f11.length ≤ d) (hT : Tabs w) (h : checkOf x = some (r1, r2)) :
    Calls Tryz.prog 59 #[.agg #[.string x.f0, .int .i64 x.f1, .string x.f2, .string x.f3, .int .i64 x.f4, .int .i64 x.f5, .int .i64 x.f6, .int .i64 x.f7, .int .i64 x.f8, .int .i64 x.f9, .slice A x.f10.length c', .slice B x.f11.length d]] w fun e w' => e = .returned (.tuple #[.string r1, .int .i64 r2]) ∧ Below w.heap.size w w' := by
  unfold checkOf at h
  obtain ⟨c, hc, h⟩ := Option.bind_eq_some_iff.mp h
  have HR10 := Aside0.mk hr10
  have HR11 := Aside0.mk hr11
  have HC10 := Aside0.mk hc10
  have HC11 := Aside0.mk hc11
  have HC := Aside0.mk hc
  have HT := Aside0.mk hT
  clear hr10 hr11 hc10 hc11 hc hT
  have hu25 := Tryz.underlying25
  by_cases hlt : 256 < c
  · rw [if_pos hlt] at h
    simp only [Option.some.injEq, Prod.mk.injEq] at h
    obtain ⟨rfl, rfl⟩ := h
    go_enter Tryz.func59, Tryz.ntmps59
    go_wp2_with fail
    refine (count_calls x c A c' B d _ (Kd.C_alloc HR10.out _) HC10.out (Kd.C_alloc HR11.out _) HC11.out HC.out).mono ?_
    rintro e w2 ⟨rfl, hb⟩
    have HB := Aside0.mk (below_step (below_alloc (Below.refl w.heap.size w) _) hb)
    clear hb
    go_wp2
    go_ret2
    exact ⟨rfl, HB.out⟩
  · rw [if_neg hlt] at h
    obtain ⟨⟨b1, s1⟩, hw, hs⟩ := Option.map_eq_some_iff.mp h
    simp only at hs
    subst hs
    have HW := Aside0.mk hw
    clear hw h
    go_enter Tryz.func59, Tryz.ntmps59
    go_wp2_with fail
    refine (count_calls x c A c' B d _ (Kd.C_alloc HR10.out _) HC10.out (Kd.C_alloc HR11.out _) HC11.out HC.out).mono ?_
    rintro e w2 ⟨rfl, hb⟩
    have HB := Aside0.mk (below_step (below_alloc (Below.refl w.heap.size w) _) hb)
    have hbox := (hb.block w.heap.size (by simp)).trans (heap_alloc_new w _)
    obtain ⟨z0, z1, z2, z3, z4, z5, z6, z7, z8, z9, z10, z11⟩ := nd_cells2 hbox
    clear hb hbox
    go_wp2_with fail
    clear z0 z1 z2 z3 z4 z5 z6 z7 z8 z9 z10 z11
    obtain ⟨w3, h3⟩ : ∃ w3, w3 = (w2.alloc (.cells #[.string ⟨#[]⟩] 9)).alloc (.cells #[.int .i64 0] 29) := ⟨_, rfl⟩
    have hI : CheckInv w2.heap.size (w2.heap.size + 1) (⟨#[]⟩, 0) w3 := by
      rw [h3]
      refine ⟨?_, (IsVar.new w2 9 (.string ⟨#[]⟩)).keep ((Kp.refl _ _).alloc _)⟩
      have := IsVar.new (w2.alloc (.cells #[.string ⟨#[]⟩] 9)) 29 (.int .i64 0)
      simpa using this
    have HB3 := Aside0.mk (show Below w.heap.size w w3 by rw [h3]; exact below_alloc (below_alloc HB.out _) _)
    have hsz := HB.out.size
    rw [← h3]
    clear h3
    have HI := Aside0.mk hI
    have LA := Aside0.mk hI.2.lt
    have LE := Aside0.mk hI.1.lt
    have HS := Aside0.mk hsz
    clear hI hsz
    refine (walk_calls 77 #[.pointer (some ⟨w2.heap.size + 1, 0, none⟩), .pointer (some ⟨w2.heap.size, 0, none⟩)] (fun j => j = w2.heap.size ∨ j = w2.heap.size + 1) w (CheckInv w2.heap.size (w2.heap.size + 1)) checkStep ⟨check_visits w2.heap.size (w2.heap.size + 1) w HT.out HS.out (by have := HS.out; omega) (by omega)⟩ _ (⟨#[]⟩, 0) x ⟨#[]⟩ 1 (b1, (r1, r2)) A c' B d w3 (Nat.lt_succ_self _) (by rintro k (rfl | rfl); exact LA.out; exact LE.out) HB3.out HI.out HR10.out HC10.out HR11.out HC11.out HW.out).mono ?_
    rintro e w4 ⟨rfl, hi, hk⟩
    have hs := HS.out
    have HB4 := Aside0.mk (Kp.after HB3.out hk (by rintro k (rfl | rfl) <;> omega))
    have c1 := hi.1.cell
    have c2 := hi.2.cell
    clear hi hk HI HB3 hs
    go_wp2
    go_quiet (fail)
    go_wp2
    go_ret2
    exact ⟨rfl, by first | exact HB4.out | exact pw_below_drewN HB4.out _⟩
def sourcetree_Check.f (a0_0 : ByteArray) (a0_1 : Int) (a0_2 : ByteArray) (a0_3 : ByteArray) (a0_4 : Int) (a0_5 : Int) (a0_6 : Int) (a0_7 : Int) (a0_8 : Int) (a0_9 : Int) (l0_10 : List S25) (l0_11 : List S44) : Option (ByteArray × Int) := checkOf ⟨a0_0, a0_1, a0_2, a0_3, a0_4, a0_5, a0_6, a0_7, a0_8, a0_9, l0_10, l0_11⟩
theorem sourcetree_Check.calls (a0_0 : ByteArray) (a0_1 : Int) (a0_2 : ByteArray) (a0_3 : ByteArray) (a0_4 : Int) (a0_5 : Int) (a0_6 : Int) (a0_7 : Int) (a0_8 : Int) (a0_9 : Int) (A0_10 : Option Addr) (c0_10 : Nat) (l0_10 : List S25) (A0_11 : Option Addr) (c0_11 : Nat) (l0_11 : List S44) (r1 : ByteArray) (r2 : Int) (w : World) (hr0_10 : Kd.C k25 w A0_10 l0_10.length l0_10) (hc0_10 : l0_10.length ≤ c0_10) (hr0_11 : Kd.C k44 w A0_11 l0_11.length l0_11) (hc0_11 : l0_11.length ≤ c0_11) (hT : Tabs w) (h : sourcetree_Check.f a0_0 a0_1 a0_2 a0_3 a0_4 a0_5 a0_6 a0_7 a0_8 a0_9 l0_10 l0_11 = some (r1, r2)) :
    Calls Tryz.prog 59 #[.agg #[.string a0_0, .int .i64 a0_1, .string a0_2, .string a0_3, .int .i64 a0_4, .int .i64 a0_5, .int .i64 a0_6, .int .i64 a0_7, .int .i64 a0_8, .int .i64 a0_9, .slice A0_10 l0_10.length c0_10, .slice A0_11 l0_11.length c0_11]] w fun e w' => e = .returned (.tuple #[.string r1, .int .i64 r2]) ∧ Below w.heap.size w w' :=
  check_calls ⟨a0_0, a0_1, a0_2, a0_3, a0_4, a0_5, a0_6, a0_7, a0_8, a0_9, l0_10, l0_11⟩ r1 r2 A0_10 c0_10 A0_11 c0_11 w hr0_10 hc0_10 hr0_11 hc0_11 hT h
end Go.Proofs.YtabcnplfkfdeaaaGreatDoor
