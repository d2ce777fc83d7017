/- Walks and plain laws that the claim stands on (part 23). -/
import Derived.Test.YtabcnplfkfdeaaaGreatDoorL12
import Derived.Test.YtabcnplfkfdeaaaGreatDoorL22
import Derived.BigRegion
namespace Go.Proofs.YtabcnplfkfdeaaaGreatDoor
open Go.RowKit Go.Proofs.YtabcnplfkfdeaaaGreatDoorW.PrintWords Go.Proofs.YtabcnplfkfdeaaaGreatDoorW.PrintLast Go.Proofs.YtabcnplfkfdeaaaGreatDoorW.PrintMore
set_option linter.unusedVariables false
set_option linter.unusedSimpArgs false
structure NamesOk (l : List S25) : Prop where
  few : l.length ≤ 64
  names : ∀ i : Int, 0 ≤ i → i < l.length → Q.sourcetree_Name.f (rd_T25 l i).f0 = some true
  sizes : ∀ i : Int, 0 ≤ i → i < l.length → (rd_T25 l i).f0.size ≤ maxLen
  rise : SortedN l
def shownB (v lev : Int) (k : S25) : Option Bool := Q7.naming_Shown.f 9 v k.f0 k.f1 k.f2 k.f3 k.f4 k.f5 k.f6 k.f7 k.f8 k.f9 k.f10 k.f11 lev
def KidsR (f : ByteArray → ByteArray → S25 → S25 → Prop) (v lev : Int) (p s : ByteArray) : List S25 → List S25 → List S25 → Prop
  | acc, [], out => out = acc
  | acc, k :: ks, out => ∃ b, shownB v (wrap64 (lev + 1)) k = some b ∧ (b = true → ∃ src pth r, Q7.naming_join.f s k.f0 (lev == 1) = some src ∧ Q7.naming_join.f p k.f0 (lev == 1) = some pth ∧ f pth src k r ∧ KidsR f v lev p s (acc ++ [r]) ks out) ∧ (b = false → KidsR f v lev p s acc ks out)
def ShowR : Nat → Int → Int → ByteArray → ByteArray → S25 → S25 → Prop
  | 0, _, _, _, _, _, _ => False
  | d + 1, v, lev, p, s, x, r => NamesOk x.f10 ∧ x.f11.length ≤ 4398046511104 ∧ ∃ ks, KidsR (ShowR d v (wrap64 (lev + 1))) v lev p s [] x.f10 ks ∧ SortedN ks ∧ r = ⟨x.f0, x.f1, x.f2, x.f3, x.f4, x.f5, x.f6, x.f7, 0, 0, ks, if v = 3 then x.f11 else []⟩
theorem visit_enters (args : Array Value) (w : World) : (callFunc 66 args).run Tryz.prog w = .ok (.enter 66 args) w :=
  enters_of Tryz.func66 (by kernel_rfl) rfl args w
set_option maxRecDepth 100000 in
theorem visit_calls (x : S25) (p s : ByteArray) (A : Option Addr) (c : Nat) (B : Option Addr) (d : Nat) (w : World) : Calls Tryz.prog 66 #[.agg #[.string x.f0, .int .i64 x.f1, .string x.f2, .string x.f3, .int .i64 x.f4, .int .i64 x.f5, .int .i64 x.f6, .int .i64 x.f7, .int .i64 x.f8, .int .i64 x.f9, .slice A x.f10.length c, .slice B x.f11.length d, .string p, .string s]] w fun e w' => e = .returned (.tuple #[]) ∧ Below w.heap.size w w' := by
  have hu85 := Tryz.underlying85
  go_enter Tryz.func66, Tryz.ntmps66
  go_wp2
  go_end0
  exact ⟨rfl, below_alloc (Below.refl _ _) _⟩
def shCells (x : S25) (A : Option Addr) (c : Nat) (B : Option Addr) (e : Nat) (p s : ByteArray) : Array Value := (#[.string x.f0, .int .i64 x.f1, .string x.f2, .string x.f3, .int .i64 x.f4, .int .i64 x.f5, .int .i64 x.f6, .int .i64 x.f7, .int .i64 x.f8, .int .i64 x.f9, .slice A x.f10.length c, .slice B x.f11.length e] : Array Value) ++ #[.string p, .string s]
def zCells : Array Value := #[.string ⟨#[]⟩, .int .i64 0, .string ⟨#[]⟩, .string ⟨#[]⟩, .int .i64 0, .int .i64 0, .int .i64 0, .int .i64 0, .int .i64 0, .int .i64 0, .slice none 0 0, .slice none 0 0]
def oCells (x : S25) (a b c : Int) (v10 v11 : Value) : Array Value := #[.string x.f0, .int .i64 x.f1, .string x.f2, .string x.f3, .int .i64 a, .int .i64 b, .int .i64 c, .int .i64 x.f7, .int .i64 0, .int .i64 0, v10, v11]
structure Blks (w W : World) (x : S25) (A : Option Addr) (c : Nat) (B : Option Addr) (e : Nat) (p s : ByteArray) (out : Array Value) : Prop where
  b5 : W.heap[w.heap.size]? = some (.cells (shCells x A c B e p s) 85 (0, 0))
  b8 : W.heap[w.heap.size + 1]? = some (.cells zCells 25 (0, 0))
  b9 : W.heap[w.heap.size + 1 + 1]? = some (.cells #[.string x.f0, .int .i64 x.f1, .string x.f2, .string x.f3, .int .i64 x.f4, .int .i64 x.f5, .int .i64 x.f6, .int .i64 x.f7, .int .i64 x.f8, .int .i64 x.f9, .slice A x.f10.length c, .slice B x.f11.length e] 25 (0, 0))
  b10 : W.heap[w.heap.size + 1 + 1 + 1]? = some (.cells out 25 (0, 0))
  below : Below w.heap.size w W
theorem Blks.start (w : World) (x : S25) (A : Option Addr) (c : Nat) (B : Option Addr) (e : Nat) (p s : ByteArray) (out : Array Value) :
    Blks w ((((w.alloc (.cells (shCells x A c B e p s) 85)).alloc (.cells zCells 25)).alloc (.cells #[.string x.f0, .int .i64 x.f1, .string x.f2, .string x.f3, .int .i64 x.f4, .int .i64 x.f5, .int .i64 x.f6, .int .i64 x.f7, .int .i64 x.f8, .int .i64 x.f9, .slice A x.f10.length c, .slice B x.f11.length e] 25)).alloc (.cells out 25)) x A c B e p s out where
  b5 := blk_alloc (blk_alloc (blk_alloc (heap_alloc_new w _) _) _) _
  b8 := by
    have h := heap_alloc_new (w.alloc (.cells (shCells x A c B e p s) 85)) (.cells zCells 25)
    simp only [World.size_alloc] at h
    exact blk_alloc (blk_alloc h _) _
  b9 := by
    have h := heap_alloc_new ((w.alloc (.cells (shCells x A c B e p s) 85)).alloc (.cells zCells 25)) (.cells #[.string x.f0, .int .i64 x.f1, .string x.f2, .string x.f3, .int .i64 x.f4, .int .i64 x.f5, .int .i64 x.f6, .int .i64 x.f7, .int .i64 x.f8, .int .i64 x.f9, .slice A x.f10.length c, .slice B x.f11.length e] 25)
    simp only [World.size_alloc] at h
    exact blk_alloc h _
  b10 := by
    have h := heap_alloc_new (((w.alloc (.cells (shCells x A c B e p s) 85)).alloc (.cells zCells 25)).alloc (.cells #[.string x.f0, .int .i64 x.f1, .string x.f2, .string x.f3, .int .i64 x.f4, .int .i64 x.f5, .int .i64 x.f6, .int .i64 x.f7, .int .i64 x.f8, .int .i64 x.f9, .slice A x.f10.length c, .slice B x.f11.length e] 25)) (.cells out 25)
    simp only [World.size_alloc] at h
    exact h
  below := below_alloc (below_alloc (below_alloc (below_alloc (Below.refl _ _) _) _) _) _
theorem Blks.step {w W W1 : World} {x : S25} {A : Option Addr} {c : Nat} {B : Option Addr} {e : Nat} {p s : ByteArray} {out : Array Value} (h : Blks w W x A c B e p s out) (hb : Below W.heap.size W W1) : Blks w W1 x A c B e p s out :=
  ⟨blk_below h.b5 hb, blk_below h.b8 hb, blk_below h.b9 hb, blk_below h.b10 hb, below_step h.below hb⟩
theorem Blks.drew {w W : World} {x : S25} {A : Option Addr} {c : Nat} {B : Option Addr} {e : Nat} {p s : ByteArray} {out : Array Value} (h : Blks w W x A c B e p s out) : Blks w W.drew x A c B e p s out := h.step (below_drew (Below.refl _ _))
theorem Blks.set {w W : World} {x : S25} {A : Option Addr} {c : Nat} {B : Option Addr} {e : Nat} {p s : ByteArray} {out : Array Value} (h : Blks w W x A c B e p s out) (i : Nat) (u : Value) : Blks w (W.setCell ⟨w.heap.size + 1 + 1 + 1, i, none⟩ u) x A c B e p s (out.setIfInBounds i u) :=
  ⟨blk_far h.b5 (by simp; omega) _, blk_far h.b8 (by simp) _, blk_far h.b9 (by simp) _, blk_set h.b10 i u, below_set h.below (by show w.heap.size ≤ w.heap.size + 1 + 1 + 1; omega)⟩
theorem Blks.grown {w W W1 : World} {x : S25} {A : Option Addr} {c : Nat} {B : Option Addr} {e : Nat} {p s : ByteArray} {out : Array Value} (h : Blks w W x A c B e p s out) {row : Option Nat} (hg : W.grownBy W1 row) (hr : ∀ k, row = some k → w.heap.size + 1 + 1 + 1 < k) : Blks w W1 x A c B e p s out :=
  ⟨blk_grown h.b5 hg (fun he => by have := hr _ he.symm; omega), blk_grown h.b8 hg (fun he => by have := hr _ he.symm; omega), blk_grown h.b9 hg (fun he => by have := hr _ he.symm; omega), blk_grown h.b10 hg (fun he => by have := hr _ he.symm; omega), pw_below_grown h.below row h.below.size hg (fun k hk => by have := hr k hk; omega)⟩
theorem Blks.far {w W : World} {x : S25} {A : Option Addr} {c : Nat} {B : Option Addr} {e : Nat} {p s : ByteArray} {out : Array Value} (h : Blks w W x A c B e p s out) {g i : Nat} (hg : w.heap.size + 1 + 1 + 1 < g) (u : Value) : Blks w (W.setCell ⟨g, i, none⟩ u) x A c B e p s out :=
  ⟨blk_far h.b5 (by show w.heap.size ≠ g; omega) _, blk_far h.b8 (by show w.heap.size + 1 ≠ g; omega) _, blk_far h.b9 (by show w.heap.size + 1 + 1 ≠ g; omega) _, blk_far h.b10 (by show w.heap.size + 1 + 1 + 1 ≠ g; omega) _, below_set h.below (by show w.heap.size ≤ g; omega)⟩
theorem app_M {w14 w15 : World} {base : Nat} {r : S25} {v10 v11 : Value} (h10 : Kd.R k25 25 w15 w14.heap.size (fun _ => True) v10 r.f10) (h11 : Kd.R k44 44 w15 w14.heap.size (fun _ => True) v11 r.f11) (hb : base ≤ w14.heap.size) :
    k25.M w15 base (fun k => w14.heap.size ≤ k) r [.string r.f0, .int .i64 r.f1, .string r.f2, .string r.f3, .int .i64 r.f4, .int .i64 r.f5, .int .i64 r.f6, .int .i64 r.f7, .int .i64 r.f8, .int .i64 r.f9, v10, v11] :=
  k25_mkM _ _ _ r (Kd.R_lower (Kd.R_mono (Kd.R_bound h10) (fun k hk => hk.2.1)) hb) (Kd.R_lower (Kd.R_mono (Kd.R_bound h11) (fun k hk => hk.2.1)) hb)
theorem app_ok {w14 : World} {base B0 : Nat} {v : Value} {acc : List S25} (hB : B0 ≤ w14.heap.size) (h : Kd.R k25 25 w14 base (fun k => B0 ≤ k) v acc) : ∀ k, w14.heap.size ≤ k → B0 ≤ k ∧ some k ≠ v.ownBlock := by
  intro k hk
  refine ⟨Nat.le_trans hB hk, fun he => ?_⟩
  obtain ⟨inner, own⟩ := Kd.R_own h
  have := own_lt own k he.symm
  omega
theorem sh_cells {W : World} {g : Nat} {x : S25} {A : Option Addr} {c : Nat} {B : Option Addr} {e : Nat} {p s : ByteArray} (h : W.heap[g]? = some (.cells (shCells x A c B e p s) 85 (0, 0))) : W.cell? ⟨g, 0, none⟩ = some (.string x.f0) ∧ W.cell? ⟨g, 1, none⟩ = some (.int .i64 x.f1) ∧ W.cell? ⟨g, 2, none⟩ = some (.string x.f2) ∧ W.cell? ⟨g, 3, none⟩ = some (.string x.f3) ∧ W.cell? ⟨g, 4, none⟩ = some (.int .i64 x.f4) ∧ W.cell? ⟨g, 5, none⟩ = some (.int .i64 x.f5) ∧ W.cell? ⟨g, 6, none⟩ = some (.int .i64 x.f6) ∧ W.cell? ⟨g, 7, none⟩ = some (.int .i64 x.f7) ∧ W.cell? ⟨g, 8, none⟩ = some (.int .i64 x.f8) ∧ W.cell? ⟨g, 9, none⟩ = some (.int .i64 x.f9) ∧ W.cell? ⟨g, 10, none⟩ = some (.slice A x.f10.length c) ∧ W.cell? ⟨g, 11, none⟩ = some (.slice B x.f11.length e) ∧ W.cell? ⟨g, 12, none⟩ = some (.string p) ∧ W.cell? ⟨g, 13, none⟩ = some (.string s) :=
  ⟨(blk_cell h 0).trans rfl, (blk_cell h 1).trans rfl, (blk_cell h 2).trans rfl, (blk_cell h 3).trans rfl, (blk_cell h 4).trans rfl, (blk_cell h 5).trans rfl, (blk_cell h 6).trans rfl, (blk_cell h 7).trans rfl, (blk_cell h 8).trans rfl, (blk_cell h 9).trans rfl, (blk_cell h 10).trans rfl, (blk_cell h 11).trans rfl, (blk_cell h 12).trans rfl, (blk_cell h 13).trans rfl⟩
theorem o_cells {W : World} {g : Nat} {x : S25} {a b c : Int} {v10 v11 : Value} (h : W.heap[g]? = some (.cells (oCells x a b c v10 v11) 25 (0, 0))) : W.cell? ⟨g, 0, none⟩ = some (.string x.f0) ∧ W.cell? ⟨g, 1, none⟩ = some (.int .i64 x.f1) ∧ W.cell? ⟨g, 2, none⟩ = some (.string x.f2) ∧ W.cell? ⟨g, 3, none⟩ = some (.string x.f3) ∧ W.cell? ⟨g, 4, none⟩ = some (.int .i64 a) ∧ W.cell? ⟨g, 5, none⟩ = some (.int .i64 b) ∧ W.cell? ⟨g, 6, none⟩ = some (.int .i64 c) ∧ W.cell? ⟨g, 7, none⟩ = some (.int .i64 x.f7) ∧ W.cell? ⟨g, 8, none⟩ = some (.int .i64 0) ∧ W.cell? ⟨g, 9, none⟩ = some (.int .i64 0) ∧ W.cell? ⟨g, 10, none⟩ = some (v10) ∧ W.cell? ⟨g, 11, none⟩ = some (v11) :=
  ⟨(blk_cell h 0).trans rfl, (blk_cell h 1).trans rfl, (blk_cell h 2).trans rfl, (blk_cell h 3).trans rfl, (blk_cell h 4).trans rfl, (blk_cell h 5).trans rfl, (blk_cell h 6).trans rfl, (blk_cell h 7).trans rfl, (blk_cell h 8).trans rfl, (blk_cell h 9).trans rfl, (blk_cell h 10).trans rfl, (blk_cell h 11).trans rfl⟩
theorem infoNd : (Tryz.prog.info? 25).map (fun i => (i.zero, i.size, i.bytes)) = some (some (.agg zCells), 12, 152) := by kernel_rfl
theorem at_str {w : World} {A : Option Addr} {n : Nat} {xs : List ByteArray} (h : Kd.C Kd.string w A n xs) (i : Int) (h0 : 0 ≤ i) (h1 : i < n) : ∃ ad, A = some ad ∧ w.cell? (ad.add i.toNat) = some (.string (rdOf ⟨#[]⟩ xs i)) := by
  obtain ⟨ad, c, e, _, hK, hc0⟩ := Kd.C_get h ⟨#[]⟩ i h0 h1
  have hc : ∀ j u, c[j]? = some u → w.cell? (ad.add (i.toNat * 1 + j)) = some u := hc0
  have hK2 : c = [.string (rdOf ⟨#[]⟩ xs i)] := hK
  subst hK2
  refine ⟨ad, e, ?_⟩
  have hq := hc 0 _ rfl
  rwa [Nat.mul_one, Nat.add_zero] at hq
def ShowsAt (d : Nat) : Prop := ∀ (v lev : Int) (p s : ByteArray) (x r : S25) (A : Option Addr) (c : Nat) (B : Option Addr) (e : Nat) (w : World), 2 ≤ v → v < 4 → Kd.C k25 w A x.f10.length x.f10 → x.f10.length ≤ c → Kd.C k44 w B x.f11.length x.f11 → x.f11.length ≤ e → Tabs w → ShowR d v lev p s x r →
  Calls Tryz.prog 92 #[.int .i64 v, .agg #[.string x.f0, .int .i64 x.f1, .string x.f2, .string x.f3, .int .i64 x.f4, .int .i64 x.f5, .int .i64 x.f6, .int .i64 x.f7, .int .i64 x.f8, .int .i64 x.f9, .slice A x.f10.length c, .slice B x.f11.length e, .string p, .string s], .int .i64 lev, .func (.func 66) #[] #[]] w fun en w' => ∃ v10 v11, en = .returned (.agg #[.string r.f0, .int .i64 r.f1, .string r.f2, .string r.f3, .int .i64 r.f4, .int .i64 r.f5, .int .i64 r.f6, .int .i64 r.f7, .int .i64 r.f8, .int .i64 r.f9, v10, v11]) ∧ Kd.R k25 25 w' w.heap.size (fun _ => True) v10 r.f10 ∧ Kd.R k44 44 w' w.heap.size (fun _ => True) v11 r.f11 ∧ Below w.heap.size w w'
theorem ShowsAt.run {d : Nat} (h : ShowsAt d) : ∀ (v lev : Int) (p s : ByteArray) (x r : S25) (A : Option Addr) (c : Nat) (B : Option Addr) (e : Nat) (w : World), 2 ≤ v → v < 4 → Kd.C k25 w A x.f10.length x.f10 → x.f10.length ≤ c → Kd.C k44 w B x.f11.length x.f11 → x.f11.length ≤ e → Tabs w → ShowR d v lev p s x r →
  Calls Tryz.prog 92 #[.int .i64 v, .agg #[.string x.f0, .int .i64 x.f1, .string x.f2, .string x.f3, .int .i64 x.f4, .int .i64 x.f5, .int .i64 x.f6, .int .i64 x.f7, .int .i64 x.f8, .int .i64 x.f9, .slice A x.f10.length c, .slice B x.f11.length e, .string p, .string s], .int .i64 lev, .func (.func 66) #[] #[]] w fun en w' => ∃ v10 v11, en = .returned (.agg #[.string r.f0, .int .i64 r.f1, .string r.f2, .string r.f3, .int .i64 r.f4, .int .i64 r.f5, .int .i64 r.f6, .int .i64 r.f7, .int .i64 r.f8, .int .i64 r.f9, v10, v11]) ∧ Kd.R k25 25 w' w.heap.size (fun _ => True) v10 r.f10 ∧ Kd.R k44 44 w' w.heap.size (fun _ => True) v11 r.f11 ∧ Below w.heap.size w w' := h
set_option maxRecDepth 100000 in
set_option maxHeartbeats 8000000 in
theorem show_step (d : Nat) (ih : ShowsAt d) : ShowsAt (d + 1) := by
  intro v lev p s x r A c B e w hv hv4 h1 h2 h3 h4 hT h
  obtain ⟨hno, hst, ks, hkr, hks, hr⟩ := h
  have H1 := Aside0.mk h1
  have H2 := Aside0.mk h2
  have H3 := Aside0.mk h3
  have H4 := Aside0.mk h4
  have HT := Aside0.mk hT
  have HNO := Aside0.mk hno
  have HST := Aside0.mk hst
  have HKR := Aside0.mk hkr
  have HKS := Aside0.mk hks
  have HR := Aside0.mk hr
  have IH := Aside0.mk ih
  clear h1 h2 h3 h4 hT hno hst hkr hks hr ih
  have hu25 := Tryz.underlying25
  have hu85 := Tryz.underlying85
  have hvg : v = 2 ∨ v = 3 := by omega
  have hve : (v == 2 || v == 3) = true := by rcases hvg with rfl | rfl <;> rfl
  go_enter Tryz.func92, Tryz.ntmps92
  go_upto_region 3 with fail
  obtain ⟨w4, h4⟩ : ∃ w4, w4 = (((w.alloc (.cells (shCells x A c B e p s) 85)).alloc (.cells zCells 25)).alloc (.cells #[.string x.f0, .int .i64 x.f1, .string x.f2, .string x.f3, .int .i64 x.f4, .int .i64 x.f5, .int .i64 x.f6, .int .i64 x.f7, .int .i64 x.f8, .int .i64 x.f9, .slice A x.f10.length c, .slice B x.f11.length e] 25)).alloc (.cells (oCells x 0 0 0 (.slice none 0 0) (.slice none 0 0)) 25) := ⟨_, rfl⟩
  have F4 : Blks w w4 x A c B e p s (oCells x 0 0 0 (.slice none 0 0) (.slice none 0 0)) := by rw [h4]; exact Blks.start w _ _ _ _ _ _ _ _
  unfold shCells zCells oCells at h4
  simp only [List.append_toArray, List.cons_append, List.nil_append] at h4
  rw [← h4]
  clear h4
  have G4 := Aside0.mk F4
  clear F4
  go_cut [34] (fun s34 wx => s34 = .bool true ∧ wx = w4)
  case first =>
    rcases hvg with rfl | rfl
    · go_wp2_with fail
      go_meet
      exact ⟨rfl, rfl⟩
    · go_wp2_with fail
      go_meet
      exact ⟨rfl, rfl⟩
  case rest =>
    obtain ⟨rfl, hwc⟩ := hcut
    rw [hwc]
    clear hwc
    obtain ⟨z0, z1, z2, z3, z4, z5, z6, z7, z8, z9, z10, z11⟩ := nd_cells0 G4.out.b9
    have y4 : w4.cell? ⟨w.heap.size + 1 + 1 + 1, 4, none⟩ = some (.int .i64 0) := (blk_cell G4.out.b10 4).trans rfl
    have y5 : w4.cell? ⟨w.heap.size + 1 + 1 + 1, 5, none⟩ = some (.int .i64 0) := (blk_cell G4.out.b10 5).trans rfl
    have y6 : w4.cell? ⟨w.heap.size + 1 + 1 + 1, 6, none⟩ = some (.int .i64 0) := (blk_cell G4.out.b10 6).trans rfl
    have g4 := blk_frozen G4.out.b10 4
    have g5 := blk_frozen G4.out.b10 5
    have g6 := blk_frozen G4.out.b10 6
    go_upto_region 4 with fail
    go_region
    obtain ⟨w5, h5⟩ : ∃ w5, w5 = (((w4.setCell ⟨w.heap.size + 1 + 1 + 1, 4, none⟩ (.int .i64 x.f4)).setCell ⟨w.heap.size + 1 + 1 + 1, 5, none⟩ (.int .i64 x.f5)).setCell ⟨w.heap.size + 1 + 1 + 1, 6, none⟩ (.int .i64 x.f6)).drew := ⟨_, rfl⟩
    have G5 := Aside0.mk (show Blks w w5 x A c B e p s (oCells x x.f4 x.f5 x.f6 (.slice none 0 0) (.slice none 0 0)) by rw [h5]; exact (((G4.out.set 4 _).set 5 _).set 6 _).drew)
    rw [← h5]
    clear h5 G4 z0 z1 z2 z3 z4 z5 z6 z7 z8 z9 z10 z11 y4 y5 y6 g4 g5 g6
    go_upto_region 5 with fail
    go_cut [45] (fun s45 wx => s45 = .bool (v == 3) ∧ wx = w5)
    case first =>
      rcases hvg with rfl | rfl
      · go_wp2_with fail
        go_meet
        exact ⟨rfl, rfl⟩
      · go_wp2_with fail
        go_meet
        exact ⟨rfl, rfl⟩
    case rest =>
      obtain ⟨rfl, hwc⟩ := hcut
      rw [hwc]
      clear hwc
      go_upto_if 45 with fail
      go_cut [48] (fun s48 wx => Aside0 (∃ v11, Blks w wx x A c B e p s (oCells x x.f4 x.f5 x.f6 (.slice none 0 0) v11) ∧ Kd.R k44 44 wx w.heap.size (fun _ => True) v11 (if v = 3 then x.f11 else [])))
      case first =>
        by_cases hv3 : v = 3
        · have hb3 : (v == 3) = true := by rw [hv3]; rfl
          rw [hb3]
          have HV3 := Aside0.mk hv3
          clear hv3 hb3
          obtain ⟨z0, z1, z2, z3, z4, z5, z6, z7, z8, z9, z10, z11⟩ := nd_cells0 G5.out.b9
          go_wp2_with fail
          refine (clone_calls x.f11 B e w5 (Kd.C_below H3.out G5.out.below) H4.out HST.out).mono ?_
          rintro en w6 ⟨v0, rfl, hr6, hb6⟩
          obtain ⟨A6, c6, rfl⟩ := Kd.R_slice hr6
          have G6 := Aside0.mk (G5.out.step hb6)
          have HR6 := Aside0.mk hr6
          have HS6 := Aside0.mk G5.out.below.size
          clear hr6 hb6 G5 z0 z1 z2 z3 z4 z5 z6 z7 z8 z9 z10 z11
          have y11 : w6.cell? ⟨w.heap.size + 1 + 1 + 1, 11, none⟩ = some (.slice none 0 0) := (blk_cell G6.out.b10 11).trans rfl
          have g11 := blk_frozen G6.out.b10 11
          go_wp2_with fail
          go_meet
          refine ⟨_, G6.out.set 11 _, ?_⟩
          rw [if_pos HV3.out]
          exact Kd.R_set (Kd.R_lower HR6.out HS6.out) G6.out.b10 (by decide) 11 _
        · have hb3 : (v == 3) = false := by simpa using hv3
          rw [hb3]
          have HV3 := Aside0.mk hv3
          clear hv3 hb3
          go_wp2_with fail
          go_meet
          refine ⟨⟨.slice none 0 0, G5.out, ?_⟩⟩
          rw [if_neg HV3.out]
          exact Kd.R_nil _ _ _ _ _
      case rest =>
        obtain ⟨v11, G6, R6⟩ := hcut.out
        have G6 := Aside0.mk G6
        have R6 := Aside0.mk R6
        clear hcut
        obtain ⟨z0, z1, z2, z3, z4, z5, z6, z7, z8, z9, z10, z11, z12, z13⟩ := sh_cells G6.out.b5
        have hve2 := visit_enters
        go_wp2_with fail
        refine (visit_calls x p s A c B e wc).mono ?_
        rintro en w7 ⟨rfl, hb7⟩
        have G7 := Aside0.mk (G6.out.step hb7)
        have R7 := Aside0.mk (Kd.R_below R6.out hb7)
        clear hb7 G6 R6 z0 z1 z2 z3 z4 z5 z6 z7 z8 z9 z10 z11 z12 z13 hve2
        obtain ⟨z0, z1, z2, z3, z4, z5, z6, z7, z8, z9, z10, z11⟩ := nd_cells0 G7.out.b9
        go_wp2_with fail
        refine (names_calls v x.f10 A c w7 hv hv4 (Kd.C_below H1.out G7.out.below) H2.out HNO.out.few HNO.out.names HNO.out.sizes HNO.out.rise (HT.out.below G7.out.below)).mono ?_
        rintro en w8 ⟨vn, rfl, hrn, hb8⟩
        have G8 := Aside0.mk (G7.out.step hb8)
        have R8 := Aside0.mk (Kd.R_mono (Kd.R_bound (Kd.R_below R7.out hb8)) (fun k hk => (show k < w8.heap.size from hk.2.2.1)))
        have RN8 := Aside0.mk (Kd.R_mono (Kd.R_bound (Kd.R_lower hrn G7.out.below.size)) (fun k hk => (show k < w8.heap.size from hk.2.2.1)))
        obtain ⟨An, cn, en1⟩ := Kd.R_slice hrn
        clear hb8 hrn G7 R7 z0 z1 z2 z3 z4 z5 z6 z7 z8 z9 z10 z11
        have hnl : (namesL x.f10).length = x.f10.length := by simp [namesL]
        rw [hnl] at en1
        subst en1
        obtain ⟨z0, z1, z2, z3, z4, z5, z6, z7, z8, z9, z10, z11⟩ := nd_cells0 G8.out.b9
        obtain ⟨B0, hB0⟩ : ∃ B0, B0 = w8.heap.size := ⟨_, rfl⟩
        have HB0 := Aside0.mk (show w.heap.size + 1 + 1 + 1 < B0 by rw [hB0]; exact blk_lt G8.out.b10)
        have HB0w := Aside0.mk (Nat.le_of_eq hB0)
        rw [← hB0] at R8 RN8
        clear hB0 hnl
        have hm := Kd.C_max H1.out
        go_wp2_with fail
        clear z0 z1 z2 z3 z4 z5 z6 z7 z8 z9 z10 z11
        go_loopg [63] x.f10.length (fun kq v63 W => ∃ (i : Int) (va : Value) (acc : List S25), v63 = .int .i64 i ∧ Aside0 (0 ≤ i ∧ i + kq = x.f10.length) ∧ Aside0 (Blks w W x A c B e p s (oCells x x.f4 x.f5 x.f6 va v11)) ∧ Aside0 (Kd.R k25 25 W w.heap.size (fun k => B0 ≤ k) va acc) ∧ Aside0 (Kd.R k44 44 W w.heap.size (fun k => k < B0) v11 (if v = 3 then x.f11 else [])) ∧ Aside0 (Kd.R Kd.string 9 W w.heap.size (fun k => k < B0) (.slice An x.f10.length cn) (namesL x.f10)) ∧ Aside0 (B0 ≤ W.heap.size) ∧ Aside0 (KidsR (ShowR d v (wrap64 (lev + 1))) v lev p s acc (x.f10.drop i.toNat) ks) ∧ Aside0 (acc.length ≤ i))
        case atStart => exact ⟨0, .slice none 0 0, [], rfl, ⟨by omega⟩, G8, ⟨Kd.R_nil _ _ _ _ _⟩, R8, RN8, HB0w, HKR, ⟨by simp⟩⟩
        case round =>
          clear G8 R8 RN8 HB0w HKR
          obtain ⟨i, va, acc, rfl, HI, G, RA, RS, RN, HBW, HK, HAL⟩ := hrel
          have hi' := HI.out
          cases gk with
          | zero =>
            have hi : ¬ i < (x.f10.length : Int) := by omega
            have di : decide (i < (x.f10.length : Int)) = false := decide_eq_false hi
            have hk := HK.out
            rw [show i.toNat = x.f10.length by omega, List.drop_length] at hk
            simp only [KidsR] at hk
            subst hk
            have HAL2 := Aside0.mk (show ks.length < 4611686018427387904 by have := HAL.out; have := HNO.out.few; omega)
            clear hi' HI
            obtain ⟨Ava, cva, hva⟩ := Kd.R_slice RA.out
            subst hva
            have x10 : wr.cell? ⟨w.heap.size + 1 + 1 + 1, 10, none⟩ = some (.slice Ava ks.length cva) := (blk_cell G.out.b10 10).trans rfl
            go_wp2_with fail
            refine (sortNodes_calls ks _ wr w.heap.size _ RA.out HKS.out HAL2.out).mono ?_
            rintro en w20 ⟨rfl, hb20⟩
            have G20 := Aside0.mk (G.out.step hb20)
            have RA20 := Aside0.mk (Kd.R_below RA.out hb20)
            have RS20 := Aside0.mk (Kd.R_below RS.out hb20)
            clear hb20 G RA RS RN x10
            obtain ⟨A11, c11, hv11⟩ := Kd.R_slice RS20.out
            obtain ⟨n11, hn11⟩ : ∃ n11, n11 = (if v = 3 then x.f11 else []).length := ⟨_, rfl⟩
            rw [← hn11] at hv11
            subst hv11
            have H11 := Aside0.mk hn11
            clear hn11
            obtain ⟨z0, z1, z2, z3, z4, z5, z6, z7, z8, z9, z10, z11⟩ := o_cells G20.out.b10
            go_wp2_with (first | ((with_reducible refine gate_store (t := 25) (p := 8) rfl ?_); refine wpList_store_row rfl 25 (.tmp 8) (.tmp 115) rfl (w.heap.size + 1) _ rfl rfl 25 zCells G20.out.b8 sizeNd rfl (by simp [Value.oneCell']) ?_))
            (try simp only [Exit.inBlock, Exit.then])
            refine bodyPost_ret (results_cell_row rfl _ _ (w.heap.size + 1) _ _ _ _ rfl (setRow_same G20.out.b8) hu25 rfl sizeNd) rfl ?_
            have hr := HR.out
            subst hr
            have hb0 := HB0.out
            have hbw := G20.out.below
            refine ⟨_, _, rfl, ?_, ?_, ?_⟩
            · exact Kd.R_mono (Kd.R_step RA20.out (fun k hk _ => setRow_other (by omega))) (fun _ _ => trivial)
            · have hs := RS20.out
              rw [← H11.out] at *
              exact Kd.R_mono (Kd.R_step (Kd.R_types RS20.out G20.out.b8 (by decide)) (fun k hk _ => setRow_other (fun he => hk.2 he.symm))) (fun _ _ => trivial)
            · exact ⟨hbw.os, hbw.tape, hbw.output, by simpa [World.setRow] using hbw.size, fun k hk => (setRow_other (by omega)).trans (hbw.block k hk)⟩
          | succ k1 =>
            have hi : i < (x.f10.length : Int) := by omega
            have hi0 : 0 ≤ i := hi'.1
            have di : decide (i < (x.f10.length : Int)) = true := decide_eq_true hi
            have HN1 := Aside0.mk (show 0 ≤ i + 1 ∧ i + 1 + k1 = x.f10.length by omega)
            have HW := Aside0.mk (show wrap64 (i + 1) = i + 1 by unfold wrap64; omega)
            have hdrop : x.f10.drop i.toNat = rd_T25 x.f10 i :: x.f10.drop (i + 1).toNat := by
              rw [List.drop_eq_getElem_cons (show i.toNat < x.f10.length by omega), show (i + 1).toNat = i.toNat + 1 by omega]
              congr 1
              unfold rd_T25
              simp [List.getD_eq_getElem?_getD, List.getElem?_eq_getElem (show i.toNat < x.f10.length by omega)]
            have hk := HK.out
            rw [hdrop] at hk
            simp only [KidsR] at hk
            obtain ⟨b, hsh, hkt, hkf⟩ := hk
            have HSH := Aside0.mk hsh
            have HKT := Aside0.mk hkt
            have HKF := Aside0.mk hkf
            clear hsh hkt hkf hdrop HK
            obtain ⟨ad, A10, c10, A11, c11, eA, q0, q1, q2, q3, q4, q5, q6, q7, q8, q9, q10, q11, l10, g10, l11, g11⟩ := at_T25 H1.out i hi0 hi
            replace q0 := pw_cell_below G.out.below q0
            replace q1 := pw_cell_below G.out.below q1
            replace q2 := pw_cell_below G.out.below q2
            replace q3 := pw_cell_below G.out.below q3
            replace q4 := pw_cell_below G.out.below q4
            replace q5 := pw_cell_below G.out.below q5
            replace q6 := pw_cell_below G.out.below q6
            replace q7 := pw_cell_below G.out.below q7
            replace q8 := pw_cell_below G.out.below q8
            replace q9 := pw_cell_below G.out.below q9
            replace q10 := pw_cell_below G.out.below q10
            replace q11 := pw_cell_below G.out.below q11
            have L10 := Aside0.mk l10
            have C10 := Aside0.mk g10
            have L11 := Aside0.mk l11
            have C11 := Aside0.mk g11
            subst eA
            clear hi' l10 g10 l11 g11
            replace hi0 := eq_true hi0
            replace hi := eq_true hi
            go_wp2_with fail
            refine (Q7.naming_Shown.calls 9 v _ _ _ _ _ _ _ _ _ _ A10 c10 _ A11 c11 _ _ b _ (Kd.C_below C10.out (below_alloc G.out.below _)) L10.out (Kd.C_below C11.out (below_alloc G.out.below _)) L11.out HSH.out).mono ?_
            rintro en w9 ⟨rfl, hb9⟩
            have hbw := below_step (below_alloc (Below.refl wr.heap.size wr) _) hb9
            have G9 := Aside0.mk (G.out.step hbw)
            have RA9 := Aside0.mk (Kd.R_below (Kd.R_mono (Kd.R_bound RA.out) (fun k hk => (show B0 ≤ k ∧ k < wr.heap.size from ⟨hk.1, hk.2.2.1⟩))) hbw)
            have RS9 := Aside0.mk (Kd.R_below RS.out hbw)
            have RN9 := Aside0.mk (Kd.R_below RN.out hbw)
            have K9 := Aside0.mk (blk_below (heap_alloc_new wr _) hb9)
            have HBW9 := Aside0.mk (Nat.le_trans HBW.out hbw.size)
            obtain ⟨g14, hg14⟩ : ∃ g14, g14 = wr.heap.size := ⟨_, rfl⟩
            rw [← hg14] at K9 RA9 ⊢
            have HG14 := Aside0.mk (show B0 ≤ g14 by rw [hg14]; exact HBW.out)
            obtain ⟨Ava, cva, hva⟩ := Kd.R_slice RA.out
            subst hva
            have HOWN := Aside0.mk (show ∀ k, (Value.slice Ava acc.length cva).ownBlock = some k → w.heap.size + 1 + 1 + 1 < k from fun k hk => Nat.lt_of_lt_of_le HB0.out (RA.out.1 k hk))
            clear hbw hb9 G RA RS RN HBW HSH hg14 q0 q1 q2 q3 q4 q5 q6 q7 q8 q9 q10 q11
            cases b with
            | false =>
              go_wp2_with fail
              go_roundg k1
              case measure => omega
              case rel => exact ⟨i + 1, _, acc, (by rw [HW.out]), HN1, G9, ⟨Kd.R_mono RA9.out (fun k hk => hk.1)⟩, RS9, RN9, HBW9, ⟨HKF.out (by first | rfl | trivial)⟩, ⟨by have := HAL.out; omega⟩⟩
            | true =>
              obtain ⟨src, pth, rk, hsrc, hpth, hrk, hrest⟩ := HKT.out (by first | rfl | trivial)
              have HSRC := Aside0.mk hsrc
              have HPTH := Aside0.mk hpth
              have HRK := Aside0.mk hrk
              have HREST := Aside0.mk hrest
              clear hsrc hpth hrk hrest HKT HKF
              obtain ⟨z0, z1, z2, z3, z4, z5, z6, z7, z8, z9, z10, z11, z12, z13⟩ := sh_cells G9.out.b5
              obtain ⟨y0, -⟩ := nd_cells0 K9.out
              go_wp2_with fail
              refine (Q7.naming_join.calls s _ (lev == 1) src _ HSRC.out).mono ?_
              rintro en w10 ⟨rfl, hd10⟩
              have hb10 := hd10.below
              have G10 := Aside0.mk (G9.out.step hb10)
              have RA10 := Aside0.mk (Kd.R_below RA9.out hb10)
              have RS10 := Aside0.mk (Kd.R_below RS9.out hb10)
              have RN10 := Aside0.mk (Kd.R_below RN9.out hb10)
              have K10 := Aside0.mk (blk_below K9.out hb10)
              have HBW10 := Aside0.mk (Nat.le_trans HBW9.out hb10.size)
              clear hd10 hb10 G9 RA9 RS9 RN9 K9 HBW9 z0 z1 z2 z3 z4 z5 z6 z7 z8 z9 z10 z11 z12 z13 y0
              obtain ⟨An', cn', eN, _, hCN⟩ := Kd.R_reads RN10.out
              simp only [Value.slice.injEq] at eN
              obtain ⟨rfl, -, rfl⟩ := eN
              obtain ⟨adn, eAn, n0⟩ := at_str hCN i (of_eq_true hi0) (by simp [namesL]; exact of_eq_true hi)
              have enm : rdOf ⟨#[]⟩ (namesL x.f10) i = (rd_T25 x.f10 i).f0 := by
                have h1 := of_eq_true hi0
                have h2 := of_eq_true hi
                unfold rdOf rd_T25 namesL
                simp [List.getD_eq_getElem?_getD, List.getElem?_eq_getElem (show i.toNat < x.f10.length by omega)]
              rw [enm] at n0
              subst eAn
              clear enm hCN
              have y0 : w10.cell? ⟨g14, 0, none⟩ = some (.string (rd_T25 x.f10 i).f0) := (blk_cell K10.out 0).trans rfl
              have y1 := blk_frozen K10.out 0
              go_upto_region 15 with fail
              obtain ⟨w12, h12⟩ : ∃ w12, w12 = w10.setCell ⟨g14, 0, none⟩ (.string (rd_T25 x.f10 i).f0) := ⟨_, rfl⟩
              have hb12 : Below w.heap.size w w12 := by rw [h12]; exact below_set G10.out.below (by have := HB0.out; have := HG14.out; show w.heap.size ≤ g14; omega)
              have G12 := Aside0.mk (show Blks w w12 x (some ad) c B e p s (oCells x x.f4 x.f5 x.f6 (.slice Ava acc.length cva) v11) by rw [h12]; exact G10.out.far (by have := HB0.out; have := HG14.out; omega) _)
              have hk12 := blk_set K10.out 0 (.string (rd_T25 x.f10 i).f0)
              rw [← h12] at hk12
              have K12 := Aside0.mk (show w12.heap[g14]? = some (.cells #[.string (rd_T25 x.f10 i).f0, .int .i64 (rd_T25 x.f10 i).f1, .string (rd_T25 x.f10 i).f2, .string (rd_T25 x.f10 i).f3, .int .i64 (rd_T25 x.f10 i).f4, .int .i64 (rd_T25 x.f10 i).f5, .int .i64 (rd_T25 x.f10 i).f6, .int .i64 (rd_T25 x.f10 i).f7, .int .i64 (rd_T25 x.f10 i).f8, .int .i64 (rd_T25 x.f10 i).f9, .slice A10 (rd_T25 x.f10 i).f10.length c10, .slice A11 (rd_T25 x.f10 i).f11.length c11] 25 (0, 0)) from hk12)
              clear hk12
              have RA12 := Aside0.mk (show Kd.R k25 25 w12 w.heap.size (fun k => B0 ≤ k ∧ k < g14) (.slice Ava acc.length cva) acc by rw [h12]; exact Kd.R_far RA10.out (fun k hk => (show k ≠ g14 by omega)) _)
              have RS12 := Aside0.mk (show Kd.R k44 44 w12 w.heap.size (fun k => k < B0) v11 (if v = 3 then x.f11 else []) by rw [h12]; exact Kd.R_far RS10.out (fun k hk => (show k ≠ g14 by have := HG14.out; omega)) _)
              have RN12 := Aside0.mk (show Kd.R Kd.string 9 w12 w.heap.size (fun k => k < B0) (.slice (some adn) x.f10.length cn) (namesL x.f10) by rw [h12]; exact Kd.R_far RN10.out (fun k hk => (show k ≠ g14 by have := HG14.out; omega)) _)
              have HBW12 := Aside0.mk (show B0 ≤ w12.heap.size by rw [h12]; simpa using HBW10.out)
              have HLEN := Aside0.mk (show acc.length < 64 by have := HAL.out; have := of_eq_true hi; have := HNO.out.few; omega)
              rw [← h12]
              clear h12 hb12 G10 K10 RA10 RS10 RN10 HBW10 y0 y1 n0
              have hinfo := infoNd
              refine start_ (n := 21) (S := fun w' => w'.cell? ⟨w.heap.size + 1 + 1 + 1, 10, none⟩ = some (.slice Ava acc.length cva) ∧ w'.cell? ⟨g14, 0, none⟩ = some (.string (rd_T25 x.f10 i).f0) ∧ w'.cell? ⟨g14, 1, none⟩ = some (.int .i64 (rd_T25 x.f10 i).f1) ∧ w'.cell? ⟨g14, 2, none⟩ = some (.string (rd_T25 x.f10 i).f2) ∧ w'.cell? ⟨g14, 3, none⟩ = some (.string (rd_T25 x.f10 i).f3) ∧ w'.cell? ⟨g14, 4, none⟩ = some (.int .i64 (rd_T25 x.f10 i).f4) ∧ w'.cell? ⟨g14, 5, none⟩ = some (.int .i64 (rd_T25 x.f10 i).f5) ∧ w'.cell? ⟨g14, 6, none⟩ = some (.int .i64 (rd_T25 x.f10 i).f6) ∧ w'.cell? ⟨g14, 7, none⟩ = some (.int .i64 (rd_T25 x.f10 i).f7) ∧ w'.cell? ⟨g14, 8, none⟩ = some (.int .i64 (rd_T25 x.f10 i).f8) ∧ w'.cell? ⟨g14, 9, none⟩ = some (.int .i64 (rd_T25 x.f10 i).f9) ∧ w'.cell? ⟨g14, 10, none⟩ = some (.slice A10 (rd_T25 x.f10 i).f10.length c10) ∧ w'.cell? ⟨g14, 11, none⟩ = some (.slice A11 (rd_T25 x.f10 i).f11.length c11) ∧ w'.cell? ⟨w.heap.size, 12, none⟩ = some (.string p)) (ds := [18, 20]) #[false, false, false, false, false, false, false, false, false, false, false, false, false, false, false, false, false, false, false, false, false] (by kernel_rfl) rfl rfl ⟨(blk_cell (G12.out.drew).b10 10).trans rfl, (blk_cell (blk_drew K12.out) 0).trans rfl, (blk_cell (blk_drew K12.out) 1).trans rfl, (blk_cell (blk_drew K12.out) 2).trans rfl, (blk_cell (blk_drew K12.out) 3).trans rfl, (blk_cell (blk_drew K12.out) 4).trans rfl, (blk_cell (blk_drew K12.out) 5).trans rfl, (blk_cell (blk_drew K12.out) 6).trans rfl, (blk_cell (blk_drew K12.out) 7).trans rfl, (blk_cell (blk_drew K12.out) 8).trans rfl, (blk_cell (blk_drew K12.out) 9).trans rfl, (blk_cell (blk_drew K12.out) 10).trans rfl, (blk_cell (blk_drew K12.out) 11).trans rfl, (blk_cell (G12.out.drew).b5 12).trans rfl⟩ (fun hHeld => ?_)
              have G13 := Aside0.mk (G12.out.drew)
              have K13 := Aside0.mk (blk_drew K12.out)
              have RA13 := Aside0.mk (Kd.R_below RA12.out (below_drew (Below.refl _ _)))
              have RS13 := Aside0.mk (Kd.R_below RS12.out (below_drew (Below.refl _ _)))
              have RN13 := Aside0.mk (Kd.R_below RN12.out (below_drew (Below.refl _ _)))
              have HBW13 := Aside0.mk (show B0 ≤ w12.drew.heap.size from HBW12.out)
              generalize w12.drew = w13 at G13 K13 RA13 RS13 RN13 HBW13 hHeld ⊢
              refine pure_ (i := 0) (N := some 91) (v := ?_) (a' := ?_) #[true, false, false, false, false, false, false, false, false, false, false, false, false, false, false, false, false, false, false, false, false] rfl rfl (by kernel_rfl) (fun _ _ _ h => h) (Or.inl ⟨by rfl, ?_⟩) ?_ ?_
              rotate_left
              · intro w'
                go_simp
                with_reducible rfl
              rotate_left
              · simp only [Act.put, List.setIfInBounds_toArray, List.set_cons_zero, List.set_cons_succ, i64_w, i32_w]
                rfl
              refine pure_ (i := 2) (N := some 93) (v := ?_) (a' := ?_) #[true, false, true, false, false, false, false, false, false, false, false, false, false, false, false, false, false, false, false, false, false] rfl rfl (by kernel_rfl) (fun _ _ _ h => h) (Or.inl ⟨by rfl, ?_⟩) ?_ ?_
              rotate_left
              · intro w'
                go_simp
                with_reducible rfl
              rotate_left
              · simp only [Act.put, List.setIfInBounds_toArray, List.set_cons_zero, List.set_cons_succ, i64_w, i32_w]
                rfl
              refine pure_ (i := 4) (N := some 95) (v := ?_) (a' := ?_) #[true, false, true, false, true, false, false, false, false, false, false, false, false, false, false, false, false, false, false, false, false] rfl rfl (by kernel_rfl) (fun _ _ _ h => h) (Or.inl ⟨by rfl, ?_⟩) ?_ ?_
              rotate_left
              · intro w'
                go_simp
                with_reducible rfl
              rotate_left
              · simp only [Act.put, List.setIfInBounds_toArray, List.set_cons_zero, List.set_cons_succ, i64_w, i32_w]
                rfl
              refine pure_ (i := 6) (N := some 97) (v := ?_) (a' := ?_) #[true, false, true, false, true, false, true, false, false, false, false, false, false, false, false, false, false, false, false, false, false] rfl rfl (by kernel_rfl) (fun _ _ _ h => h) (Or.inl ⟨by rfl, ?_⟩) ?_ ?_
              rotate_left
              · intro w'
                go_simp
                with_reducible rfl
              rotate_left
              · simp only [Act.put, List.setIfInBounds_toArray, List.set_cons_zero, List.set_cons_succ, i64_w, i32_w]
                rfl
              refine pure_ (i := 8) (N := some 99) (v := ?_) (a' := ?_) #[true, false, true, false, true, false, true, false, true, false, false, false, false, false, false, false, false, false, false, false, false] rfl rfl (by kernel_rfl) (fun _ _ _ h => h) (Or.inl ⟨by rfl, ?_⟩) ?_ ?_
              rotate_left
              · intro w'
                go_simp
                with_reducible rfl
              rotate_left
              · simp only [Act.put, List.setIfInBounds_toArray, List.set_cons_zero, List.set_cons_succ, i64_w, i32_w]
                rfl
              refine pure_ (i := 9) (N := some 100) (v := ?_) (a' := ?_) #[true, false, true, false, true, false, true, false, true, true, false, false, false, false, false, false, false, false, false, false, false] rfl rfl (by kernel_rfl) (fun _ _ _ h => h) (Or.inl ⟨by rfl, ?_⟩) ?_ ?_
              rotate_left
              · intro w'
                go_simp
                with_reducible rfl
              rotate_left
              · simp only [Act.put, List.setIfInBounds_toArray, List.set_cons_zero, List.set_cons_succ, i64_w, i32_w]
                rfl
              refine pure_ (i := 11) (N := some 102) (v := ?_) (a' := ?_) #[true, false, true, false, true, false, true, false, true, true, false, true, false, false, false, false, false, false, false, false, false] rfl rfl (by kernel_rfl) (fun _ _ _ h => h) (Or.inl ⟨by rfl, ?_⟩) ?_ ?_
              rotate_left
              · intro w'
                go_simp
                with_reducible rfl
              rotate_left
              · simp only [Act.put, List.setIfInBounds_toArray, List.set_cons_zero, List.set_cons_succ, i64_w, i32_w]
                rfl
              refine pure_ (i := 13) (N := some 104) (v := ?_) (a' := ?_) #[true, false, true, false, true, false, true, false, true, true, false, true, false, true, false, false, false, false, false, false, false] rfl rfl (by kernel_rfl) (fun _ _ _ h => h) (Or.inl ⟨by rfl, ?_⟩) ?_ ?_
              rotate_left
              · intro w'
                go_simp
                with_reducible rfl
              rotate_left
              · simp only [Act.put, List.setIfInBounds_toArray, List.set_cons_zero, List.set_cons_succ, i64_w, i32_w]
                rfl
              refine pure_ (i := 14) (N := some 105) (v := ?_) (a' := ?_) #[true, false, true, false, true, false, true, false, true, true, false, true, false, true, true, false, false, false, false, false, false] rfl rfl (by kernel_rfl) (fun _ _ _ h => h) (Or.inl ⟨by rfl, ?_⟩) ?_ ?_
              rotate_left
              · intro w'
                go_simp
                with_reducible rfl
              rotate_left
              · simp only [Act.put, List.setIfInBounds_toArray, List.set_cons_zero, List.set_cons_succ, i64_w, i32_w]
                rfl
              refine pure_ (i := 15) (N := some 106) (v := ?_) (a' := ?_) #[true, false, true, false, true, false, true, false, true, true, false, true, false, true, true, true, false, false, false, false, false] rfl rfl (by kernel_rfl) (fun _ _ _ h => h) (Or.inl ⟨by rfl, ?_⟩) ?_ ?_
              rotate_left
              · intro w'
                go_simp
                with_reducible rfl
              rotate_left
              · simp only [Act.put, List.setIfInBounds_toArray, List.set_cons_zero, List.set_cons_succ, i64_w, i32_w]
                rfl
              refine take_ (i := 1) (N := some 92) (v := ?_) (a' := ?_) #[true, true, true, false, true, false, true, false, true, true, false, true, false, true, true, true, false, false, false, false, false] rfl rfl (by kernel_rfl) (fun _ _ _ h => h) (Or.inl ⟨by rfl, ?_⟩) hHeld ?_ ?_
              rotate_left
              · rintro w' ⟨s0, s1, s2, s3, s4, s5, s6, s7, s8, s9, s10, s11, s12, s13⟩
                go_simp
                with_reducible rfl
              rotate_left
              · simp only [Act.put, List.setIfInBounds_toArray, List.set_cons_zero, List.set_cons_succ, i64_w, i32_w]
                rfl
              refine take_ (i := 3) (N := some 94) (v := ?_) (a' := ?_) #[true, true, true, true, true, false, true, false, true, true, false, true, false, true, true, true, false, false, false, false, false] rfl rfl (by kernel_rfl) (fun _ _ _ h => h) (Or.inl ⟨by rfl, ?_⟩) hHeld ?_ ?_
              rotate_left
              · rintro w' ⟨s0, s1, s2, s3, s4, s5, s6, s7, s8, s9, s10, s11, s12, s13⟩
                go_simp
                with_reducible rfl
              rotate_left
              · simp only [Act.put, List.setIfInBounds_toArray, List.set_cons_zero, List.set_cons_succ, i64_w, i32_w]
                rfl
              refine take_ (i := 5) (N := some 96) (v := ?_) (a' := ?_) #[true, true, true, true, true, true, true, false, true, true, false, true, false, true, true, true, false, false, false, false, false] rfl rfl (by kernel_rfl) (fun _ _ _ h => h) (Or.inl ⟨by rfl, ?_⟩) hHeld ?_ ?_
              rotate_left
              · rintro w' ⟨s0, s1, s2, s3, s4, s5, s6, s7, s8, s9, s10, s11, s12, s13⟩
                go_simp
                with_reducible rfl
              rotate_left
              · simp only [Act.put, List.setIfInBounds_toArray, List.set_cons_zero, List.set_cons_succ, i64_w, i32_w]
                rfl
              refine take_ (i := 7) (N := some 98) (v := ?_) (a' := ?_) #[true, true, true, true, true, true, true, true, true, true, false, true, false, true, true, true, false, false, false, false, false] rfl rfl (by kernel_rfl) (fun _ _ _ h => h) (Or.inl ⟨by rfl, ?_⟩) hHeld ?_ ?_
              rotate_left
              · rintro w' ⟨s0, s1, s2, s3, s4, s5, s6, s7, s8, s9, s10, s11, s12, s13⟩
                go_simp
                with_reducible rfl
              rotate_left
              · simp only [Act.put, List.setIfInBounds_toArray, List.set_cons_zero, List.set_cons_succ, i64_w, i32_w]
                rfl
              refine one_ (i := 10) (N := some 101) #[true, true, true, true, true, true, true, true, true, true, true, true, false, true, true, true, false, false, false, false, false] rfl rfl (by kernel_rfl) (by decide) (fun K hK => ?_)
              refine goes_ Tryz.func107 (by kernel_rfl) rfl #[.string p, .string (rd_T25 x.f10 i).f0, .bool (lev == 1)] (by rfl) rfl rfl (by simp only [List.map_toArray, List.map_cons, List.map_nil]; rfl) ?_
              with_reducible refine (Q7.naming_join.calls p _ (lev == 1) pth _ HPTH.out).mono ?_
              rintro en w14 ⟨rfl, hd14⟩
              refine ⟨_, rfl, ?_⟩
              have hb14 := hd14.below
              have G14 := Aside0.mk (G13.out.step hb14)
              have K14 := Aside0.mk (blk_below K13.out hb14)
              have RA14 := Aside0.mk (Kd.R_below RA13.out hb14)
              have RS14 := Aside0.mk (Kd.R_below RS13.out hb14)
              have RN14 := Aside0.mk (Kd.R_below RN13.out hb14)
              have HBW14 := Aside0.mk (Nat.le_trans HBW13.out hb14.size)
              refine hK.out _ _ ⟨(blk_cell (G14.out).b10 10).trans rfl, (blk_cell (K14.out) 0).trans rfl, (blk_cell (K14.out) 1).trans rfl, (blk_cell (K14.out) 2).trans rfl, (blk_cell (K14.out) 3).trans rfl, (blk_cell (K14.out) 4).trans rfl, (blk_cell (K14.out) 5).trans rfl, (blk_cell (K14.out) 6).trans rfl, (blk_cell (K14.out) 7).trans rfl, (blk_cell (K14.out) 8).trans rfl, (blk_cell (K14.out) 9).trans rfl, (blk_cell (K14.out) 10).trans rfl, (blk_cell (K14.out) 11).trans rfl, (blk_cell (G14.out).b5 12).trans rfl⟩ (fun hHeld => ?_)
              clear hK K
              refine norm_ (a' := ?_) ?_ ?_
              rotate_left
              · show Act.put _ (some 101) _ = _
                simp only [Act.put, List.setIfInBounds_toArray, List.set_cons_zero, List.set_cons_succ, i64_w, i32_w]
                rfl
              refine pure_ (i := 12) (N := some 103) (v := ?_) (a' := ?_) #[true, true, true, true, true, true, true, true, true, true, true, true, true, true, true, true, false, false, false, false, false] rfl rfl (by kernel_rfl) (fun _ _ _ h => h) (Or.inl ⟨by rfl, ?_⟩) ?_ ?_
              rotate_left
              · intro w'
                go_simp
                with_reducible rfl
              rotate_left
              · simp only [Act.put, List.setIfInBounds_toArray, List.set_cons_zero, List.set_cons_succ, i64_w, i32_w]
                rfl
              refine one_ (i := 16) (N := some 107) #[true, true, true, true, true, true, true, true, true, true, true, true, true, true, true, true, true, false, false, false, false] rfl rfl (by kernel_rfl) (by decide) (fun K hK => ?_)
              refine goes_ Tryz.func92 (by kernel_rfl) rfl #[.int .i64 v, .agg #[.string (rd_T25 x.f10 i).f0, .int .i64 (rd_T25 x.f10 i).f1, .string (rd_T25 x.f10 i).f2, .string (rd_T25 x.f10 i).f3, .int .i64 (rd_T25 x.f10 i).f4, .int .i64 (rd_T25 x.f10 i).f5, .int .i64 (rd_T25 x.f10 i).f6, .int .i64 (rd_T25 x.f10 i).f7, .int .i64 (rd_T25 x.f10 i).f8, .int .i64 (rd_T25 x.f10 i).f9, .slice A10 (rd_T25 x.f10 i).f10.length c10, .slice A11 (rd_T25 x.f10 i).f11.length c11, .string pth, .string src], .int .i64 (wrap64 (lev + 1)), .func (.func 66) #[] #[]] (by rfl) rfl rfl (by simp only [List.map_toArray, List.map_cons, List.map_nil]; rfl) ?_
              with_reducible refine (ShowsAt.run IH.out v (wrap64 (lev + 1)) pth src _ rk A10 c10 A11 c11 _ hv hv4 (Kd.C_below C10.out G14.out.below) L10.out (Kd.C_below C11.out G14.out.below) L11.out (HT.out.below G14.out.below) HRK.out).mono ?_
              rintro en w15 ⟨u10, u11, rfl, hru, hrs, hb15⟩
              refine ⟨_, rfl, ?_⟩
              have G15 := Aside0.mk (G14.out.step hb15)
              have K15 := Aside0.mk (blk_below K14.out hb15)
              have RA15 := Aside0.mk (Kd.R_below RA14.out hb15)
              have RS15 := Aside0.mk (Kd.R_below RS14.out hb15)
              have RN15 := Aside0.mk (Kd.R_below RN14.out hb15)
              obtain ⟨Au, cu, rfl⟩ := Kd.R_slice hru
              obtain ⟨Av, cv, rfl⟩ := Kd.R_slice hrs
              have HRU := Aside0.mk hru
              have HRV := Aside0.mk hrs
              have HB15 := Aside0.mk hb15
              refine hK.out _ _ ⟨(blk_cell (G15.out).b10 10).trans rfl, (blk_cell (K15.out) 0).trans rfl, (blk_cell (K15.out) 1).trans rfl, (blk_cell (K15.out) 2).trans rfl, (blk_cell (K15.out) 3).trans rfl, (blk_cell (K15.out) 4).trans rfl, (blk_cell (K15.out) 5).trans rfl, (blk_cell (K15.out) 6).trans rfl, (blk_cell (K15.out) 7).trans rfl, (blk_cell (K15.out) 8).trans rfl, (blk_cell (K15.out) 9).trans rfl, (blk_cell (K15.out) 10).trans rfl, (blk_cell (K15.out) 11).trans rfl, (blk_cell (G15.out).b5 12).trans rfl⟩ (fun hHeld => ?_)
              clear hK K
              refine norm_ (a' := ?_) ?_ ?_
              rotate_left
              · show Act.put _ (some 107) _ = _
                simp only [Act.put, List.setIfInBounds_toArray, List.set_cons_zero, List.set_cons_succ, i64_w, i32_w]
                rfl
              refine one_ (i := 17) (N := some 108) #[true, true, true, true, true, true, true, true, true, true, true, true, true, true, true, true, true, true, false, false, false] rfl rfl (by kernel_rfl) (by decide) (fun K hK => ?_)
              refine value_ (w1 := ?_) (v := ?_) (by rfl) rfl ?_ ?_
              rotate_left 2
              · go_simp
                constructor
                · rfl
                · rfl
              refine hK.out _ _ ⟨(blk_cell (G15.out.step (below_alloc (Below.refl _ _) _)).b10 10).trans rfl, (blk_cell (blk_alloc K15.out _) 0).trans rfl, (blk_cell (blk_alloc K15.out _) 1).trans rfl, (blk_cell (blk_alloc K15.out _) 2).trans rfl, (blk_cell (blk_alloc K15.out _) 3).trans rfl, (blk_cell (blk_alloc K15.out _) 4).trans rfl, (blk_cell (blk_alloc K15.out _) 5).trans rfl, (blk_cell (blk_alloc K15.out _) 6).trans rfl, (blk_cell (blk_alloc K15.out _) 7).trans rfl, (blk_cell (blk_alloc K15.out _) 8).trans rfl, (blk_cell (blk_alloc K15.out _) 9).trans rfl, (blk_cell (blk_alloc K15.out _) 10).trans rfl, (blk_cell (blk_alloc K15.out _) 11).trans rfl, (blk_cell (G15.out.step (below_alloc (Below.refl _ _) _)).b5 12).trans rfl⟩ (fun hHeld => ?_)
              clear hK K
              refine norm_ (a' := ?_) ?_ ?_
              rotate_left
              · show Act.put _ (some 108) _ = _
                simp only [Act.put, List.setIfInBounds_toArray, List.set_cons_zero, List.set_cons_succ, i64_w, i32_w]
                rfl
              refine last_ (i := 18) (N := some 109) #[true, true, true, true, true, true, true, true, true, true, true, true, true, true, true, true, true, true, true, false, false] rfl rfl (by kernel_rfl) (by decide) (fun K hK => ?_)
              refine Kd.R_append_step k25 (w0 := w) (W := w15) w.heap.size (by rfl) (.tmp 92) (.tmp 108) 22 25 (.agg zCells) 152 rfl Tryz.underlying22 hinfo rfl (by decide) (by decide) (.slice Ava acc.length cva) acc rk [.string rk.f0, .int .i64 rk.f1, .string rk.f2, .string rk.f3, .int .i64 rk.f4, .int .i64 rk.f5, .int .i64 rk.f6, .int .i64 rk.f7, .int .i64 rk.f8, .int .i64 rk.f9, .slice Au rk.f10.length cu, .slice Av rk.f11.length cv] (fun k => B0 ≤ k) (fun k => w14.heap.size ≤ k) rfl (by rfl) (app_M HRU.out HRV.out G14.out.below.size) (app_ok HBW14.out (Kd.R_mono RA14.out (fun k hk => hk.1))) (fun k hk => Nat.le_trans HBW14.out (Nat.le_trans HB15.out.size hk)) (Kd.R_mono RA15.out (fun k hk => hk.1)) G15.out.below G15.out.below.size (by have := HLEN.out; omega) ?_
              intro v18 w18 hr18 hb18 hg18 hat18
              obtain ⟨A18, c18, rfl⟩ := Kd.R_slice hr18
              have y18 : w18.cell? ⟨w.heap.size + 1 + 1 + 1, 10, none⟩ = some (.slice Ava acc.length cva) := (blk_cell (G15.out.grown hg18 (HOWN.out)).b10 10).trans rfl
              have g18 := blk_frozen (G15.out.grown hg18 (HOWN.out)).b10 10
              have HR18 := Aside0.mk hr18
              have HG18 := Aside0.mk hg18
              clear hr18 hb18 hg18 hat18
              refine hK.out _ _ ?_
              clear hK K
              refine norm_ (a' := ?_) ?_ ?_
              rotate_left
              · show Act.put _ (some 109) _ = _
                simp only [Act.put, List.setIfInBounds_toArray, List.set_cons_zero, List.set_cons_succ, i64_w, i32_w]
                rfl
              refine pure_ (i := 19) (N := some 110) (v := ?_) (a' := ?_) #[true, true, true, true, true, true, true, true, true, true, true, true, true, true, true, true, true, true, true, true, false] rfl rfl (by kernel_rfl) (fun _ _ _ h => h) (Or.inl ⟨by rfl, ?_⟩) ?_ ?_
              rotate_left
              · intro w'
                go_simp
                with_reducible rfl
              rotate_left
              · simp only [Act.put, List.setIfInBounds_toArray, List.set_cons_zero, List.set_cons_succ, i64_w, i32_w]
                rfl
              refine last_ (i := 20) (N := none) #[true, true, true, true, true, true, true, true, true, true, true, true, true, true, true, true, true, true, true, true, true] rfl rfl (by kernel_rfl) (by decide) (fun K hK => ?_)
              refine skip_ (w1 := ?_) (by rfl) rfl ?_ ?_
              rotate_left
              · go_simp
                rfl
              refine hK.out _ _ ?_
              clear hK K
              refine done_ (by kernel_rfl) ?_
              go_wp2_with fail
              go_roundg k1
              case measure => omega
              case rel =>
                have G18 := (G15.out.grown HG18.out HOWN.out)
                have hb0 := HB0.out
                have hr18 := HR18.out
                rw [show (acc ++ [rk]).length = acc.length + 1 by simp] at hr18
                refine ⟨i + 1, _, acc ++ [rk], (by rw [HW.out]), HN1, ⟨G18.set 10 _⟩, ⟨Kd.R_far hr18 (fun k hk => (show k ≠ w.heap.size + 1 + 1 + 1 by omega)) _⟩, ⟨Kd.R_set (Kd.R_grown RS15.out HG18.out (fun k hk he => by have := (RA15.out.1 k he.symm).1; omega)) G18.b10 (by decide) 10 _⟩, ⟨Kd.R_set (Kd.R_grown RN15.out HG18.out (fun k hk he => by have := (RA15.out.1 k he.symm).1; omega)) G18.b10 (by decide) 10 _⟩, ⟨?_⟩, HREST, ⟨?_⟩⟩
                · have h1 := HG18.out.size
                  have h2 := HB15.out.size
                  have h3 := HBW14.out
                  simp only [World.size_setCell]
                  omega
                · have := HAL.out
                  simp
                  omega
end Go.Proofs.YtabcnplfkfdeaaaGreatDoor
