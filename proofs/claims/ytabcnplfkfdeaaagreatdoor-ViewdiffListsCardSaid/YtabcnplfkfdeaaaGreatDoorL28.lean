/- Walks and plain laws that the claim stands on (part 28). -/
import Derived.Test.YtabcnplfkfdeaaaGreatDoorL25
import Derived.Test.YtabcnplfkfdeaaaGreatDoorL26
import Derived.Test.YtabcnplfkfdeaaaGreatDoorL17
namespace Go.Proofs.YtabcnplfkfdeaaaGreatDoor
open Go.RowKit Go.Proofs.YtabcnplfkfdeaaaGreatDoorW.PrintWords Go.Proofs.YtabcnplfkfdeaaaGreatDoorW.PrintLast Go.Proofs.YtabcnplfkfdeaaaGreatDoorW.PrintMore
set_option linter.unusedVariables false
set_option linter.unusedSimpArgs false
theorem rd_mid (pre : List S34) (x : S34) (suf : List S34) : rd_T34 (pre ++ x :: suf) (pre.length : Int) = x := by
  unfold rd_T34
  simp [List.getD_eq_getElem?_getD]
theorem wrap_len (n : Nat) (h : n ≤ 1000) : wrap64 ((n : Int) + 1) = ((n + 1 : Nat) : Int) := by
  unfold wrap64
  omega
def wordOf (k : Int) : ByteArray := (Q4.masterdiscref50_word.f k).getD ⟨#[]⟩
theorem word_some (k : Int) : Q4.masterdiscref50_word.f k = some (wordOf k) := by
  unfold wordOf Q4.masterdiscref50_word.f
  repeat' split
  all_goals rfl
theorem word_size (k : Int) : (wordOf k).size ≤ 10 := by
  unfold wordOf Q4.masterdiscref50_word.f
  repeat' split
  all_goals decide
def fmtOf (d : S34) : ByteArray := if (wordOf d.f0).toList = ([] : List UInt8) then wordOf d.f0 else if d.f1.toList = ([] : List UInt8) then wordOf d.f0 ++ (⟨#[32, 46]⟩ : ByteArray) else (wordOf d.f0 ++ (⟨#[32]⟩ : ByteArray)) ++ d.f1
theorem r50_format (l : List S34) (hl : l.length ≤ 200) (hp : ∀ d ∈ l, d.f1.size ≤ 1000) (suf : List S34) : ∀ (pre : List S34) (acc : List ByteArray) (k : Nat), pre ++ suf = l → suf.length < k → acc.length = pre.length → Q4.masterdiscref50_Format.l0 k l acc (pre.length : Int) = some (acc ++ suf.map fmtOf) := by
  induction suf with
  | nil =>
    intro pre acc k h hk ha
    obtain ⟨k, rfl⟩ : ∃ j, k = j + 1 := ⟨k - 1, by omega⟩
    have hl2 : l.length = pre.length := by rw [← h]; simp
    simp only [Q4.masterdiscref50_Format.l0]
    rw [if_neg (by omega)]
    simp
  | cons x suf ih =>
    intro pre acc k h hk ha
    obtain ⟨k, rfl⟩ : ∃ j, k = j + 1 := ⟨k - 1, by omega⟩
    have hl2 : l.length = pre.length + (suf.length + 1) := by rw [← h]; simp
    have hrd : rd_T34 l (pre.length : Int) = x := by rw [← h]; exact rd_mid pre x suf
    have hx := hp x (by rw [← h]; simp)
    have hw := word_size x.f0
    have step : ∀ s : ByteArray, Q4.masterdiscref50_Format.l0 k l (acc ++ [s]) (wrap64 ((pre.length : Int) + 1)) = some (acc ++ [s] ++ suf.map fmtOf) := by
      intro s
      rw [wrap_len _ (by omega)]
      have := ih (pre ++ [x]) (acc ++ [s]) k (by rw [List.append_assoc]; exact h) (by simp at hk; omega) (by simp; omega)
      simpa using this
    simp only [Q4.masterdiscref50_Format.l0]
    rw [if_pos (by omega), if_pos (by omega), hrd, word_some, Option.bind_some]
    by_cases c1 : (wordOf x.f0).toList = ([] : List UInt8)
    · rw [if_pos c1, if_pos (by omega), step]
      simp [fmtOf, c1]
    · rw [if_neg c1]
      by_cases c2 : x.f1.toList = ([] : List UInt8)
      · rw [if_pos c2, if_pos (by omega), if_pos (by omega), step]
        simp [fmtOf, c1, c2]
      · rw [if_neg c2, if_pos (by omega), if_pos (by rw [ByteArray.size_append]; have : (⟨#[32]⟩ : ByteArray).size = 1 := rfl; omega), if_pos (by omega), step]
        simp [fmtOf, c1, c2]
def wordsL : List ByteArray := [(⟨#[109, 105, 115, 115, 105, 110, 103]⟩ : ByteArray), (⟨#[101, 120, 116, 114, 97]⟩ : ByteArray), (⟨#[107, 105, 110, 100]⟩ : ByteArray), (⟨#[100, 97, 116, 97]⟩ : ByteArray), (⟨#[116, 97, 114, 103, 101, 116]⟩ : ByteArray), (⟨#[97, 116, 116, 114, 105, 98, 117, 116, 101, 115]⟩ : ByteArray), (⟨#[116, 105, 109, 101]⟩ : ByteArray), (⟨#[115, 116, 114, 101, 97, 109, 115]⟩ : ByteArray)]
theorem words_in (k : Int) (h0 : 0 ≤ k) (h8 : k < 8) : rdOf ByteArray.empty wordsL k = wordOf k ∧ ¬ (wordOf k).toList = ([] : List UInt8) := by
  have h : k = 0 ∨ k = 1 ∨ k = 2 ∨ k = 3 ∨ k = 4 ∨ k = 5 ∨ k = 6 ∨ k = 7 := by omega
  rcases h with rfl | rfl | rfl | rfl | rfl | rfl | rfl | rfl <;> exact ⟨rfl, by rw [ByteArray.toList_eq]; exact List.cons_ne_nil _ _⟩
theorem words_out (k : Int) (h : k < 0 ∨ 8 ≤ k) : wordOf k = ⟨#[]⟩ := by
  unfold wordOf Q4.masterdiscref50_word.f
  repeat (rw [if_neg (by omega)])
  rfl
theorem empty_toList : (⟨#[]⟩ : ByteArray).toList = ([] : List UInt8) := by rw [ByteArray.toList_eq]
theorem vd_format (l : List S34) (hl : l.length ≤ 200) (hp : ∀ d ∈ l, d.f1.size ≤ 1000) (suf : List S34) : ∀ (pre : List S34) (acc : List ByteArray) (k : Nat), pre ++ suf = l → 2 * suf.length < k → acc.length = pre.length → Q6.viewdiff_Format.l0 k wordsL acc l (l.length : Int) (pre.length : Int) = some (acc ++ suf.map fmtOf) := by
  induction suf with
  | nil =>
    intro pre acc k h hk ha
    obtain ⟨k, rfl⟩ : ∃ j, k = j + 1 := ⟨k - 1, by omega⟩
    have hl2 : l.length = pre.length := by rw [← h]; simp
    simp only [Q6.viewdiff_Format.l0]
    rw [if_neg (by omega)]
    simp
  | cons x suf ih =>
    intro pre acc k h hk ha
    simp only [List.length_cons] at hk
    obtain ⟨k, rfl⟩ : ∃ j, k = j + 1 + 1 := ⟨k - 2, by omega⟩
    have hl2 : l.length = pre.length + (suf.length + 1) := by rw [← h]; simp
    have hrd : rd_T34 l (pre.length : Int) = x := by rw [← h]; exact rd_mid pre x suf
    have hx := hp x (by rw [← h]; simp)
    have hw := word_size x.f0
    have step : ∀ s : ByteArray, Q6.viewdiff_Format.l0 k wordsL (acc ++ [s]) l (l.length : Int) (wrap64 ((pre.length : Int) + 1)) = some (acc ++ [s] ++ suf.map fmtOf) := by
      intro s
      rw [wrap_len _ (by omega)]
      have := ih (pre ++ [x]) (acc ++ [s]) k (by rw [List.append_assoc]; exact h) (by omega) (by simp; omega)
      simpa using this
    have hwl : (wordsL.length : Int) = 8 := rfl
    simp only [Q6.viewdiff_Format.l0]
    rw [if_pos (by omega), if_pos (by omega), if_pos (by omega), hrd]
    have out : ∀ b : Bool, b = true → (x.f0 < 0 ∨ 8 ≤ x.f0) → Q6.viewdiff_Format.j1 (k + 1) wordsL acc l (l.length : Int) (pre.length : Int) b x.f0 x.f1 = some (acc ++ (x :: suf).map fmtOf) := by
      intro b hb ho
      simp only [Q6.viewdiff_Format.j1]
      rw [if_pos hb, if_pos (by omega), step]
      simp [fmtOf, words_out _ ho, empty_toList]
    by_cases c0 : x.f0 < 0
    · rw [if_pos c0]
      exact out true rfl (.inl c0)
    · rw [if_neg c0]
      by_cases c8 : x.f0 ≥ (wordsL.length : Int)
      · exact out _ (decide_eq_true c8) (.inr (by omega))
      · rw [decide_eq_false c8]
        obtain ⟨e1, e2⟩ := words_in x.f0 (by omega) (by omega)
        simp only [Q6.viewdiff_Format.j1]
        rw [if_neg (by simp)]
        by_cases c2 : x.f1.toList = ([] : List UInt8)
        · rw [if_pos c2, if_pos (by omega), if_pos (by omega), e1, if_pos (by omega), if_pos (by omega), step]
          simp [fmtOf, e2, c2]
        · rw [if_neg c2, if_pos (by omega), if_pos (by omega), e1, if_pos (by omega), if_pos (by rw [ByteArray.size_append]; have : (⟨#[32]⟩ : ByteArray).size = 1 := rfl; omega), if_pos (by omega), step]
          simp [fmtOf, e2, c2]
theorem formats (l : List S34) (hl : l.length ≤ 200) (hp : ∀ d ∈ l, d.f1.size ≤ 1000) : Q6.viewdiff_Format.f 402 l = some (l.map fmtOf) ∧ Q4.masterdiscref50_Format.f 402 l = some (l.map fmtOf) := by
  refine ⟨?_, ?_⟩
  · have h := vd_format l hl hp l [] [] 402 rfl (by omega) rfl
    simpa [Q6.viewdiff_Format.f, wordsL] using h
  · have h := r50_format l hl hp l [] [] 402 rfl (by omega) rfl
    simpa [Q4.masterdiscref50_Format.f] using h
def cntOf (l : List S34) (a : Int) : Nat := (l.filter (fun d => decide (d.f0 = a))).length
theorem cnt_cons (x : S34) (l : List S34) (a : Int) : cntOf (x :: l) a = if x.f0 = a then cntOf l a + 1 else cntOf l a := by
  unfold cntOf
  by_cases h : x.f0 = a <;> simp [List.filter_cons, h]
theorem vd_count (l : List S34) (a : Int) (hl : l.length ≤ 200) (suf : List S34) : ∀ (pre : List S34) (n k : Nat), pre ++ suf = l → suf.length < k → n ≤ pre.length → Q2.viewdiff_Count.l0 k a (n : Int) l (l.length : Int) (pre.length : Int) = some ((n + cntOf suf a : Nat) : Int) := by
  induction suf with
  | nil =>
    intro pre n k h hk ha
    obtain ⟨k, rfl⟩ : ∃ j, k = j + 1 := ⟨k - 1, by omega⟩
    have hl2 : l.length = pre.length := by rw [← h]; simp
    simp only [Q2.viewdiff_Count.l0]
    rw [if_neg (by omega)]
    simp [cntOf]
  | cons x suf ih =>
    intro pre n k h hk ha
    obtain ⟨k, rfl⟩ : ∃ j, k = j + 1 := ⟨k - 1, by omega⟩
    have hl2 : l.length = pre.length + (suf.length + 1) := by rw [← h]; simp
    have hrd : rd_T34 l (pre.length : Int) = x := by rw [← h]; exact rd_mid pre x suf
    have step : ∀ m : Nat, m ≤ pre.length + 1 → Q2.viewdiff_Count.l0 k a (m : Int) l (l.length : Int) (wrap64 ((pre.length : Int) + 1)) = some ((m + cntOf suf a : Nat) : Int) := by
      intro m hm
      rw [wrap_len _ (by omega)]
      have := ih (pre ++ [x]) m k (by rw [List.append_assoc]; exact h) (by simp at hk; omega) (by simp; omega)
      simpa using this
    simp only [Q2.viewdiff_Count.l0]
    rw [if_pos (by omega), if_pos (by omega), if_pos (by omega), hrd, cnt_cons]
    by_cases c : x.f0 = a
    · rw [if_pos c, if_pos c, wrap_len _ (by omega), step _ (by omega)]
      congr 1
      omega
    · rw [if_neg c, if_neg c, step _ (by omega)]
theorem r50_count (l : List S34) (a : Int) (hl : l.length ≤ 200) (suf : List S34) : ∀ (pre : List S34) (n k : Nat), pre ++ suf = l → suf.length < k → n ≤ pre.length → Q4.masterdiscref50_Count.l0 k l a (n : Int) (pre.length : Int) = some ((n + cntOf suf a : Nat) : Int) := by
  induction suf with
  | nil =>
    intro pre n k h hk ha
    obtain ⟨k, rfl⟩ : ∃ j, k = j + 1 := ⟨k - 1, by omega⟩
    have hl2 : l.length = pre.length := by rw [← h]; simp
    simp only [Q4.masterdiscref50_Count.l0]
    rw [if_neg (by omega)]
    simp [cntOf]
  | cons x suf ih =>
    intro pre n k h hk ha
    obtain ⟨k, rfl⟩ : ∃ j, k = j + 1 := ⟨k - 1, by omega⟩
    have hl2 : l.length = pre.length + (suf.length + 1) := by rw [← h]; simp
    have hrd : rd_T34 l (pre.length : Int) = x := by rw [← h]; exact rd_mid pre x suf
    have step : ∀ m : Nat, m ≤ pre.length + 1 → Q4.masterdiscref50_Count.l0 k l a (m : Int) (wrap64 ((pre.length : Int) + 1)) = some ((m + cntOf suf a : Nat) : Int) := by
      intro m hm
      rw [wrap_len _ (by omega)]
      have := ih (pre ++ [x]) m k (by rw [List.append_assoc]; exact h) (by simp at hk; omega) (by simp; omega)
      simpa using this
    simp only [Q4.masterdiscref50_Count.l0]
    rw [if_pos (by omega), if_pos (by omega), hrd, cnt_cons]
    by_cases c : x.f0 = a
    · rw [if_pos c, if_pos c, wrap_len _ (by omega), step _ (by omega)]
      congr 1
      omega
    · rw [if_neg c, if_neg c, step _ (by omega)]
theorem counts (l : List S34) (a : Int) (hl : l.length ≤ 200) : Q2.viewdiff_Count.f 202 l a = some (cntOf l a : Int) ∧ Q4.masterdiscref50_Count.f 202 l a = some (cntOf l a : Int) := by
  refine ⟨?_, ?_⟩
  · have h := vd_count l a hl l [] 0 202 rfl (by omega) (by simp)
    simpa [Q2.viewdiff_Count.f] using h
  · have h := r50_count l a hl l [] 0 202 rfl (by omega) (by simp)
    simpa [Q4.masterdiscref50_Count.f] using h
def keepOf (p : ByteArray) (d : S34) : Bool := (Q4.masterdiscref50_Inside.f d.f1 p).getD false
theorem inside_some (a b : ByteArray) : ∃ r, Q4.masterdiscref50_Inside.f a b = some r := by
  unfold Q4.masterdiscref50_Inside.f
  by_cases h1 : b.toList = ([] : List UInt8)
  · exact ⟨_, if_pos h1⟩
  · rw [if_neg h1]
    by_cases h2 : a.toList = b.toList
    · exact ⟨_, if_pos h2⟩
    · rw [if_neg h2]
      by_cases h3 : (a.size : Int) > (b.size : Int)
      · rw [if_pos h3, if_pos (by omega), if_pos (by omega)]
        split
        all_goals exact ⟨_, rfl⟩
      · exact ⟨_, if_neg h3⟩
theorem keep_some (p : ByteArray) (d : S34) : Q4.masterdiscref50_Inside.f d.f1 p = some (keepOf p d) := by
  obtain ⟨r, h⟩ := inside_some d.f1 p
  unfold keepOf
  rw [h]
  rfl
theorem extract_toList (a : ByteArray) (n : Nat) : (a.extract 0 n).toList = a.data.toList.take n := by
  rw [ByteArray.toList_eq, ByteArray.data_extract]
  simp
theorem take_slash (L M : List UInt8) (h : M.length < L.length) : (L.take (M.length + 1) = M ++ [47]) ↔ (L.take M.length = M ∧ L[M.length] = 47) := by
  rw [List.take_add_one, List.getElem?_eq_getElem h]
  constructor
  · intro e
    have := List.append_inj e (by simp; omega)
    exact ⟨this.1, by simpa using this.2⟩
  · rintro ⟨e1, e2⟩
    rw [e1, e2]
    rfl
theorem prefix_keep (p : ByteArray) (d : S34) (hd : d.f1.size ≤ 1000) (hp : p.size ≤ 1000) (h1 : ¬ p.toList = ([] : List UInt8)) (h2 : ¬ d.f1.toList = p.toList) : Q2.strings_HasPrefix.f d.f1 (p ++ (⟨#[47]⟩ : ByteArray)) = some (keepOf p d) := by
  rw [← keep_some]
  unfold Q2.strings_HasPrefix.f Q2.stringslite_HasPrefix.f Q4.masterdiscref50_Inside.f
  rw [if_neg h1, if_neg h2]
  have hs : (p ++ (⟨#[47]⟩ : ByteArray)).size = p.size + 1 := by rw [ByteArray.size_append]; rfl
  rw [hs]
  by_cases h3 : (d.f1.size : Int) > (p.size : Int)
  · rw [if_pos (by omega), if_pos (by omega), if_pos (by omega), if_pos h3, if_pos (by omega), if_pos (by omega), Option.bind_some]
    have hlen : p.data.toList.length = p.size := by rw [Array.length_toList]; rfl
    have hlen2 : d.f1.data.toList.length = d.f1.size := by rw [Array.length_toList]; rfl
    have hlt : p.data.toList.length < d.f1.data.toList.length := by omega
    have key := take_slash d.f1.data.toList p.data.toList hlt
    have e1 : (d.f1.extract 0 (((p.size + 1 : Nat) : Int)).toNat).toList = d.f1.data.toList.take (p.data.toList.length + 1) := by
      rw [extract_toList, hlen]
      rfl
    have e2 : (d.f1.extract 0 (((p.size : Nat) : Int)).toNat).toList = d.f1.data.toList.take p.data.toList.length := by
      rw [extract_toList, hlen]
      rfl
    have e3 : (p ++ (⟨#[47]⟩ : ByteArray)).toList = p.data.toList ++ [47] := by
      rw [ByteArray.toList_eq, ByteArray.data_append]
      simp
    have e4 : bt d.f1 (p.size : Int) = ((d.f1.data.toList[p.data.toList.length]'hlt).toNat : Int) := by
      have hb : ((p.size : Int)).toNat < d.f1.size := by omega
      rw [← bt_at _ _ hb]
      simp only [Int.toNat_natCast, hlen]
      rfl
    rw [e1, e2, e3, ByteArray.toList_eq p]
    by_cases h4 : d.f1.data.toList.take p.data.toList.length = p.data.toList
    · rw [if_pos h4, if_pos (by omega), e4]
      congr 1
      rw [Bool.eq_iff_iff, beq_iff_eq, beq_iff_eq, key]
      constructor
      · rintro ⟨_, h⟩
        rw [h]
        rfl
      · intro h
        refine ⟨h4, ?_⟩
        apply UInt8.toNat_inj.1
        have h47 : (47 : UInt8).toNat = 47 := rfl
        omega
    · rw [if_neg h4]
      congr 1
      rw [beq_eq_false_iff_ne]
      intro h
      exact h4 (key.1 h).1
  · rw [if_neg (by omega), if_neg h3]
    rfl
def belowOf (l : List S34) (p : ByteArray) : List S34 := l.filter (keepOf p)
theorem keep_nil (p : ByteArray) (d : S34) (h : p.toList = ([] : List UInt8)) : keepOf p d = true := by
  unfold keepOf Q4.masterdiscref50_Inside.f
  rw [if_pos h]
  rfl
theorem keep_same (p : ByteArray) (d : S34) (h1 : ¬ p.toList = ([] : List UInt8)) (h : d.f1.toList = p.toList) : keepOf p d = true := by
  unfold keepOf Q4.masterdiscref50_Inside.f
  rw [if_neg h1, if_pos h]
  rfl
theorem vd_below (l : List S34) (p : ByteArray) (hl : l.length ≤ 200) (hpl : p.size ≤ 1000) (hp : ∀ d ∈ l, d.f1.size ≤ 1000) (suf : List S34) : ∀ (pre acc : List S34) (k : Nat), pre ++ suf = l → suf.length < k → acc.length ≤ pre.length → Q2.viewdiff_Below.l0 k p acc l (l.length : Int) (pre.length : Int) = some (acc ++ belowOf suf p) := by
  induction suf with
  | nil =>
    intro pre acc k h hk ha
    obtain ⟨k, rfl⟩ : ∃ j, k = j + 1 := ⟨k - 1, by omega⟩
    have hl2 : l.length = pre.length := by rw [← h]; simp
    simp only [Q2.viewdiff_Below.l0]
    rw [if_neg (by omega)]
    simp [belowOf]
  | cons x suf ih =>
    intro pre acc k h hk ha
    obtain ⟨k, rfl⟩ : ∃ j, k = j + 1 := ⟨k - 1, by omega⟩
    have hl2 : l.length = pre.length + (suf.length + 1) := by rw [← h]; simp
    have hrd : rd_T34 l (pre.length : Int) = x := by rw [← h]; exact rd_mid pre x suf
    have hx := hp x (by rw [← h]; simp)
    have step : ∀ acc2 : List S34, acc2.length ≤ pre.length + 1 → Q2.viewdiff_Below.l0 k p acc2 l (l.length : Int) (wrap64 ((pre.length : Int) + 1)) = some (acc2 ++ belowOf suf p) := by
      intro acc2 hm
      rw [wrap_len _ (by omega)]
      have := ih (pre ++ [x]) acc2 k (by rw [List.append_assoc]; exact h) (by simp at hk; omega) (by simp; omega)
      simpa using this
    have taken : keepOf p x = true → acc ++ [(⟨x.f0, x.f1⟩ : S34)] ++ belowOf suf p = acc ++ belowOf (x :: suf) p := by
      intro hk
      simp [belowOf, List.filter_cons, hk]
    simp only [Q2.viewdiff_Below.l0]
    rw [if_pos (by omega), if_pos (by omega), if_pos (by omega), hrd]
    by_cases c1 : p.toList = ([] : List UInt8)
    · rw [if_pos c1, if_pos (by omega), step _ (by simp; omega), taken (keep_nil p x c1)]
    · rw [if_neg c1]
      by_cases c2 : x.f1.toList = p.toList
      · rw [if_pos c2, if_pos (by omega), step _ (by simp; omega), taken (keep_same p x c1 c2)]
      · rw [if_neg c2, if_pos (by omega), prefix_keep p x hx hpl c1 c2, Option.bind_some]
        by_cases c3 : keepOf p x = true
        · rw [if_pos c3, if_pos (by omega), step _ (by simp; omega), taken c3]
        · rw [if_neg c3, step _ (by omega)]
          simp [belowOf, List.filter_cons, c3]
theorem r50_below (l : List S34) (p : ByteArray) (hl : l.length ≤ 200) (suf : List S34) : ∀ (pre acc : List S34) (k : Nat), pre ++ suf = l → suf.length < k → acc.length ≤ pre.length → Q4.masterdiscref50_Below.l0 k l p acc (pre.length : Int) = some (acc ++ belowOf suf p) := by
  induction suf with
  | nil =>
    intro pre acc k h hk ha
    obtain ⟨k, rfl⟩ : ∃ j, k = j + 1 := ⟨k - 1, by omega⟩
    have hl2 : l.length = pre.length := by rw [← h]; simp
    simp only [Q4.masterdiscref50_Below.l0]
    rw [if_neg (by omega)]
    simp [belowOf]
  | cons x suf ih =>
    intro pre acc k h hk ha
    obtain ⟨k, rfl⟩ : ∃ j, k = j + 1 := ⟨k - 1, by omega⟩
    have hl2 : l.length = pre.length + (suf.length + 1) := by rw [← h]; simp
    have hrd : rd_T34 l (pre.length : Int) = x := by rw [← h]; exact rd_mid pre x suf
    have step : ∀ acc2 : List S34, acc2.length ≤ pre.length + 1 → Q4.masterdiscref50_Below.l0 k l p acc2 (wrap64 ((pre.length : Int) + 1)) = some (acc2 ++ belowOf suf p) := by
      intro acc2 hm
      rw [wrap_len _ (by omega)]
      have := ih (pre ++ [x]) acc2 k (by rw [List.append_assoc]; exact h) (by simp at hk; omega) (by simp; omega)
      simpa using this
    simp only [Q4.masterdiscref50_Below.l0]
    rw [if_pos (by omega), if_pos (by omega), hrd, keep_some, Option.bind_some]
    by_cases c3 : keepOf p x = true
    · rw [if_pos c3, if_pos (by omega), step _ (by simp; omega)]
      simp [belowOf, List.filter_cons, c3]
    · rw [if_neg c3, step _ (by omega)]
      simp [belowOf, List.filter_cons, c3]
theorem belows (l : List S34) (p : ByteArray) (hl : l.length ≤ 200) (hpl : p.size ≤ 1000) (hp : ∀ d ∈ l, d.f1.size ≤ 1000) : Q2.viewdiff_Below.f 202 l p = some (belowOf l p) ∧ Q4.masterdiscref50_Below.f 202 l p = some (belowOf l p) := by
  refine ⟨?_, ?_⟩
  · have h := vd_below l p hl hpl hp l [] [] 202 rfl (by omega) (by simp)
    simpa [Q2.viewdiff_Below.f] using h
  · have h := r50_below l p hl l [] [] 202 rfl (by omega) (by simp)
    simpa [Q4.masterdiscref50_Below.f] using h
theorem difs_self (l : List S34) (hl : l.length ≤ 200) (suf : List S34) : ∀ (pre : List S34) (k : Nat), pre ++ suf = l → suf.length < k → Q2.api_Difference.l0 k l l (l.length : Int) (pre.length : Int) = some true := by
  induction suf with
  | nil =>
    intro pre k h hk
    obtain ⟨k, rfl⟩ : ∃ j, k = j + 1 := ⟨k - 1, by omega⟩
    have hl2 : l.length = pre.length := by rw [← h]; simp
    simp only [Q2.api_Difference.l0]
    rw [if_neg (by omega)]
  | cons x suf ih =>
    intro pre k h hk
    obtain ⟨k, rfl⟩ : ∃ j, k = j + 1 := ⟨k - 1, by omega⟩
    have hl2 : l.length = pre.length + (suf.length + 1) := by rw [← h]; simp
    have e : Q2.api_Difference.l0 (k + 1) l l (l.length : Int) (pre.length : Int) = Q2.api_Difference.l0 k l l (l.length : Int) (wrap64 ((pre.length : Int) + 1)) := by
      simp [Q2.api_Difference.l0, show pre.length < l.length by omega]
    rw [e, wrap_len _ (by omega)]
    have := ih (pre ++ [x]) k (by rw [List.append_assoc]; exact h) (by simp at hk; omega)
    simpa using this
theorem difs_eq (l : List S34) (hl : l.length ≤ 200) : Q2.api_Difference.f 202 l l = some true := by
  have h := difs_self l hl l [] 202 rfl (by omega)
  simpa [Q2.api_Difference.f] using h
theorem strs_self (l : List ByteArray) (hl : l.length ≤ 200) (suf : List ByteArray) : ∀ (pre : List ByteArray) (k : Nat), pre ++ suf = l → suf.length < k → Q2.slices_Equal_string_string.l0 k l l (l.length : Int) (pre.length : Int) = some true := by
  induction suf with
  | nil =>
    intro pre k h hk
    obtain ⟨k, rfl⟩ : ∃ j, k = j + 1 := ⟨k - 1, by omega⟩
    have hl2 : l.length = pre.length := by rw [← h]; simp
    simp only [Q2.slices_Equal_string_string.l0]
    rw [if_neg (by omega)]
  | cons x suf ih =>
    intro pre k h hk
    obtain ⟨k, rfl⟩ : ∃ j, k = j + 1 := ⟨k - 1, by omega⟩
    have hl2 : l.length = pre.length + (suf.length + 1) := by rw [← h]; simp
    have e : Q2.slices_Equal_string_string.l0 (k + 1) l l (l.length : Int) (pre.length : Int) = Q2.slices_Equal_string_string.l0 k l l (l.length : Int) (wrap64 ((pre.length : Int) + 1)) := by
      simp [Q2.slices_Equal_string_string.l0, show pre.length < l.length by omega]
    rw [e, wrap_len _ (by omega)]
    have := ih (pre ++ [x]) k (by rw [List.append_assoc]; exact h) (by simp at hk; omega)
    simpa using this
theorem strs_eq (l : List ByteArray) (hl : l.length ≤ 200) : Q2.slices_Equal_string_string.f 202 l l = some true := by
  have h := strs_self l hl l [] 202 rfl (by omega)
  simpa [Q2.slices_Equal_string_string.f] using h
end Go.Proofs.YtabcnplfkfdeaaaGreatDoor
