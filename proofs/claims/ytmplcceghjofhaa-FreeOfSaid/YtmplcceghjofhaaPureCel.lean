/- Pages' cells and lists of pages: back and forth; lists alone -/
import Derived.Test.YtmplcceghjofhaaPureF
import Derived.Test.YtmplcceghjofhaaHOf0
namespace Go.Proofs.Ytmplcceghjofhaa.PF
open Go.RowKit Go.Proofs.YtmplcceghjofhaaW.PrintWords Go.Proofs.YtmplcceghjofhaaW.PrintLast Go.Proofs.YtmplcceghjofhaaW.PrintMore
set_option linter.unusedVariables false
set_option linter.unusedSimpArgs false
theorem bt_str (xs : List Int) (k : Nat) (h : k < xs.length) (h0 : 0 ≤ xs.getD k 0) (h1 : xs.getD k 0 ≤ 255) : bt (strOfNums xs) (k : Int) = xs.getD k 0 := by
  rw [← bt_at (strOfNums xs) (k : Int) (by rw [strOfNums_size, Int.toNat_natCast]; exact h)]
  simp only [Int.toNat_natCast]
  have e : (strOfNums xs)[k]'(by rw [strOfNums_size]; exact h) = UInt8.ofNat (xs.getD k 0).toNat := by
    show (strOfNums xs).data[k]'_ = _
    simp [strOfNums, List.getD_eq_getElem?_getD, h]
  rw [e]
  simp only [UInt8.toNat_ofNat']
  omega
theorem bt8 (a0 a1 a2 a3 a4 a5 a6 a7 : Int) (h : (0 ≤ a0 ∧ a0 ≤ 255) ∧ (0 ≤ a1 ∧ a1 ≤ 255) ∧ (0 ≤ a2 ∧ a2 ≤ 255) ∧ (0 ≤ a3 ∧ a3 ≤ 255) ∧ (0 ≤ a4 ∧ a4 ≤ 255) ∧ (0 ≤ a5 ∧ a5 ≤ 255) ∧ (0 ≤ a6 ∧ a6 ≤ 255) ∧ (0 ≤ a7 ∧ a7 ≤ 255)) :
    bt (strOfNums [a0, a1, a2, a3, a4, a5, a6, a7]) 0 = a0 ∧ bt (strOfNums [a0, a1, a2, a3, a4, a5, a6, a7]) 1 = a1 ∧ bt (strOfNums [a0, a1, a2, a3, a4, a5, a6, a7]) 2 = a2 ∧ bt (strOfNums [a0, a1, a2, a3, a4, a5, a6, a7]) 3 = a3 ∧ bt (strOfNums [a0, a1, a2, a3, a4, a5, a6, a7]) 4 = a4 ∧ bt (strOfNums [a0, a1, a2, a3, a4, a5, a6, a7]) 5 = a5 ∧ bt (strOfNums [a0, a1, a2, a3, a4, a5, a6, a7]) 6 = a6 ∧ bt (strOfNums [a0, a1, a2, a3, a4, a5, a6, a7]) 7 = a7 :=
  ⟨bt_str [a0, a1, a2, a3, a4, a5, a6, a7] 0 (by simp) (by simp; omega) (by simp; omega), bt_str [a0, a1, a2, a3, a4, a5, a6, a7] 1 (by simp) (by simp; omega) (by simp; omega), bt_str [a0, a1, a2, a3, a4, a5, a6, a7] 2 (by simp) (by simp; omega) (by simp; omega), bt_str [a0, a1, a2, a3, a4, a5, a6, a7] 3 (by simp) (by simp; omega) (by simp; omega), bt_str [a0, a1, a2, a3, a4, a5, a6, a7] 4 (by simp) (by simp; omega) (by simp; omega), bt_str [a0, a1, a2, a3, a4, a5, a6, a7] 5 (by simp) (by simp; omega) (by simp; omega), bt_str [a0, a1, a2, a3, a4, a5, a6, a7] 6 (by simp) (by simp; omega) (by simp; omega), bt_str [a0, a1, a2, a3, a4, a5, a6, a7] 7 (by simp) (by simp; omega) (by simp; omega)⟩
/-- A number's four bytes. -/
theorem bytes4 (p : Int) (h0 : 0 ≤ p) (h1 : p ≤ 4294967295) : p / 16777216 % 256 * 16777216 + p / 65536 % 256 * 65536 + p / 256 % 256 * 256 + p % 256 = p := by omega
theorem of_cell {x : S25} (h : fit x = true) : ofCell (cellF x) = x := by
  unfold fit at h
  rw [decide_eq_true_iff] at h
  obtain ⟨h0, h1, h2, h3⟩ := h
  obtain ⟨p, q⟩ := x
  simp only at h0 h1 h2 h3
  obtain ⟨b0, b1, b2, b3, b4, b5, b6, b7⟩ := bt8 (p / 16777216 % 256) (p / 65536 % 256) (p / 256 % 256) (p % 256) (q / 16777216 % 256) (q / 65536 % 256) (q / 256 % 256) (q % 256) (by omega)
  unfold ofCell cellF
  rw [b0, b1, b2, b3, b4, b5, b6, b7, bytes4 p (by omega) h1, bytes4 q h2 h3]
theorem str_bt (s : ByteArray) (h : s.size = 8) : strOfNums [bt s 0, bt s 1, bt s 2, bt s 3, bt s 4, bt s 5, bt s 6, bt s 7] = s := by
  obtain ⟨⟨l⟩⟩ := s
  match l, h with
  | [b0, b1, b2, b3, b4, b5, b6, b7], _ =>
    show strOfNums [(b0.toNat : Int), (b1.toNat : Int), (b2.toNat : Int), (b3.toNat : Int), (b4.toNat : Int), (b5.toNat : Int), (b6.toNat : Int), (b7.toNat : Int)] = _
    simp [strOfNums]
theorem four_at (a b c d : Int) (ha : 0 ≤ a ∧ a ≤ 255) (hb : 0 ≤ b ∧ b ≤ 255) (hc : 0 ≤ c ∧ c ≤ 255) (hd : 0 ≤ d ∧ d ≤ 255) :
    (a * 16777216 + b * 65536 + c * 256 + d) / 16777216 % 256 = a ∧ (a * 16777216 + b * 65536 + c * 256 + d) / 65536 % 256 = b ∧ (a * 16777216 + b * 65536 + c * 256 + d) / 256 % 256 = c ∧ (a * 16777216 + b * 65536 + c * 256 + d) % 256 = d := by omega
theorem cell_of {s : ByteArray} (h : s.size = 8) : cellF (ofCell s) = s := by
  unfold cellF ofCell
  obtain ⟨e0, e1, e2, e3⟩ := four_at (bt s 0) (bt s 1) (bt s 2) (bt s 3) (bt_range s 0) (bt_range s 1) (bt_range s 2) (bt_range s 3)
  obtain ⟨e4, e5, e6, e7⟩ := four_at (bt s 4) (bt s 5) (bt s 6) (bt s 7) (bt_range s 4) (bt_range s 5) (bt_range s 6) (bt_range s 7)
  rw [e0, e1, e2, e3, e4, e5, e6, e7]
  exact str_bt s h
theorem cell_size (x : S25) : (cellF x).size = 8 := by unfold cellF; rw [strOfNums_size]; rfl
theorem cells_nil : cellsF [] = [] := rfl
theorem cells_cons (l : List S25) (h : l ≠ []) : cellsF l = (l.take 23).map cellF :: cellsF (l.drop 23) := by
  have hl : 0 < l.length := List.length_pos_iff.2 h
  unfold cellsF
  rw [show (l.length + 22) / 23 = ((l.drop 23).length + 22) / 23 + 1 by rw [List.length_drop]; omega, List.range_succ_eq_map, List.map_cons, List.map_map]
  congr 1
  apply List.map_congr_left
  intro j _
  simp only [Function.comp]
  rw [List.drop_drop, show 23 + 23 * j = 23 * (j + 1) by omega]
theorem cells_shape : ∀ (n : Nat) (l : List S25), l.length ≤ n → l ≠ [] → shapeF (cellsF l) = true ∧ (cellsF l).flatten = l.map cellF
  | 0, l, h, hne => absurd (List.eq_nil_of_length_eq_zero (by omega)) hne
  | n + 1, l, h, hne => by
    have hl : 0 < l.length := List.length_pos_iff.2 hne
    rw [cells_cons l hne]
    by_cases hd : l.drop 23 = []
    · have h23 : l.length ≤ 23 := by have := congrArg List.length hd; rw [List.length_drop] at this; simp at this; omega
      rw [hd, cells_nil, List.take_of_length_le h23]
      refine ⟨?_, by simp⟩
      unfold shapeF
      simp [cell_size]
      omega
    · have h23 : 23 < l.length := by
        rcases Nat.lt_or_ge 23 l.length with h' | h'
        · exact h'
        · exact absurd (List.drop_eq_nil_of_le h') hd
      obtain ⟨i1, i2⟩ := cells_shape n (l.drop 23) (by rw [List.length_drop]; omega) hd
      obtain ⟨d, r, e⟩ : ∃ d r, cellsF (l.drop 23) = d :: r := ⟨_, _, cells_cons _ hd⟩
      refine ⟨?_, ?_⟩
      · rw [e] at i1 ⊢
        show (decide (((l.take 23).map cellF).length = 23) && ((l.take 23).map cellF).all (fun s => decide (s.size = 8)) && shapeF (d :: r)) = true
        rw [i1, Bool.and_true, Bool.and_eq_true]
        exact ⟨decide_eq_true (by rw [List.length_map, List.length_take]; omega), by
          rw [List.all_map, List.all_eq_true]
          intro x _
          simp [cell_size]⟩
      · rw [List.flatten_cons, i2, ← List.map_append, List.take_append_drop]
/-- A list that may be is its cells' list. -/
theorem cells_back {l : List S25} (h : chkF l = true) : shapeF (cellsF l) = true ∧ (cellsF l).flatten.map ofCell = l := by
  by_cases hne : l = []
  · subst hne; exact ⟨rfl, rfl⟩
  · obtain ⟨h1, h2⟩ := cells_shape l.length l (Nat.le_refl _) hne
    refine ⟨h1, ?_⟩
    rw [h2, List.map_map]
    have : ∀ x ∈ l, (ofCell ∘ cellF) x = x := fun x hx => of_cell (((chkF_pw l).1 h).1 x hx)
    rw [List.map_congr_left this, List.map_id'' (fun _ => rfl)]
theorem of_back_all (c : List ByteArray) (h : c.all (fun s => decide (s.size = 8)) = true) : (c.map ofCell).map cellF = c := by
  rw [List.map_map]
  have : ∀ s ∈ c, (cellF ∘ ofCell) s = s := fun s hs => cell_of (by have := List.all_eq_true.1 h s hs; simpa using this)
  rw [List.map_congr_left this, List.map_id'' (fun _ => rfl)]
/-- Cells that are well formed are the cells of their list. -/
theorem of_back : ∀ (c : List (List ByteArray)), shapeF c = true → cellsF (c.flatten.map ofCell) = c
  | [], _ => rfl
  | [c], h => by
    unfold shapeF at h
    rw [Bool.and_eq_true, decide_eq_true_iff] at h
    obtain ⟨⟨h1, h2⟩, h3⟩ := h
    have hf : [c].flatten = c := by simp
    rw [hf, cells_cons _ (by intro e; have := congrArg List.length e; simp at this; subst this; simp at h1), List.take_of_length_le (by simpa using h2), List.drop_eq_nil_of_le (by simpa using h2), of_back_all c h3, cells_nil]
  | c :: d :: r, h => by
    unfold shapeF at h
    rw [Bool.and_eq_true, Bool.and_eq_true, decide_eq_true_iff] at h
    obtain ⟨⟨h1, h3⟩, h4⟩ := h
    have ih := of_back (d :: r) h4
    rw [List.flatten_cons, List.map_append, cells_cons _ (by intro e; have := congrArg List.length e; rw [List.length_append, List.length_map, h1] at this; simp at this), List.take_append_of_le_length (by simp [h1]), List.take_of_length_le (by simp [h1]), of_back_all c h3, List.drop_append_of_le_length (by simp [h1]), List.drop_eq_nil_of_le (by simp [h1]), List.nil_append, ih]
theorem cells_len (l : List S25) : (cellsF l).length = (l.length + 22) / 23 := by simp [cellsF]
/-- A page more: a row of its own where the rows are full; else at the end of the last. -/
theorem cells_snoc1 : ∀ (n : Nat) (m : List S25) (x : S25), m.length ≤ n → (m.length % 23 = 0 → cellsF (m ++ [x]) = cellsF m ++ [[cellF x]]) ∧ (m.length % 23 ≠ 0 → ∃ init c, cellsF m = init ++ [c] ∧ c.length ≤ 23 ∧ cellsF (m ++ [x]) = init ++ [c ++ [cellF x]])
  | n, [], x, _ => ⟨fun _ => by rw [List.nil_append, cells_cons [x] (by simp)]; show [cellF x] :: cellsF [] = cellsF [] ++ [[cellF x]]; rw [cells_nil]; rfl, fun h => absurd rfl h⟩
  | 0, a :: r, x, h => absurd h (by simp)
  | n + 1, a :: r, x, h => by
    obtain ⟨m, hm⟩ : ∃ m, m = a :: r := ⟨_, rfl⟩
    rw [← hm] at h ⊢
    have hne : m ≠ [] := by rw [hm]; simp
    have hl : 0 < m.length := List.length_pos_iff.2 hne
    have hne2 : m ++ [x] ≠ [] := by simp
    rw [cells_cons m hne, cells_cons (m ++ [x]) hne2]
    by_cases h23 : m.length < 23
    · refine ⟨fun h0 => by omega, fun _ => ⟨[], m.map cellF, ?_, by rw [List.length_map]; omega, ?_⟩⟩
      · rw [List.take_of_length_le (by omega), List.drop_eq_nil_of_le (by omega), cells_nil]; rfl
      · rw [List.take_of_length_le (by rw [List.length_append]; simp; omega), List.drop_eq_nil_of_le (by rw [List.length_append]; simp; omega), cells_nil, List.map_append]; rfl
    · rw [List.take_append_of_le_length (by omega), List.drop_append_of_le_length (by omega)]
      obtain ⟨i1, i2⟩ := cells_snoc1 n (m.drop 23) x (by rw [List.length_drop]; omega)
      rw [List.length_drop] at i1 i2
      refine ⟨fun h0 => by rw [i1 (by omega)]; rfl, fun h0 => ?_⟩
      obtain ⟨init, c, e1, e2, e3⟩ := i2 (by omega)
      exact ⟨(m.take 23).map cellF :: init, c, by rw [e1]; rfl, e2, by rw [e3]; rfl⟩
end Go.Proofs.Ytmplcceghjofhaa.PF
