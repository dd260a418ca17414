/- Where a key stands among rising ones -/
import Derived.Test.YtpdlbebiapimoaaHDefs
import Derived.Test.YtpdlbebiapimoaaHOrd
import Derived.Test.YtpdlbebiapimoaaHKit
namespace Go.Proofs.Ytpdlbebiapimoaa.PN
open Go.RowKit Go.Proofs.YtpdlbebiapimoaaW.PrintWords Go.Proofs.YtpdlbebiapimoaaW.PrintLast Go.Proofs.YtpdlbebiapimoaaW.PrintMore
set_option linter.unusedVariables false
set_option linter.unusedSimpArgs false
theorem find_eq (b : Bool) (ks vs : List ByteArray) (cs : List Int) (key : ByteArray) (hr : rising ks = true) (hl : ks.length ≤ 100000) :
    node_Find.f b ks vs cs key = some ((if isin ks key && !b then (below ks key : Int) + 1 else (below ks key : Int)), isin ks key) := by
  unfold node_Find.f
  rw [if_pos ⟨hr, hl⟩]
theorem isin_lt {l : List ByteArray} (h : rising l = true) (key : ByteArray) (hi : isin l key = true) : below l key < l.length := by
  obtain ⟨x, hx, _⟩ := (isin_iff h key).1 hi
  exact (List.getElem?_eq_some_iff.1 hx).1
theorem isin_of {l : List ByteArray} (key : ByteArray) (i : Nat) (hi : i < l.length) (h : l[i].toList = key.toList) : isin l key = true := by
  unfold isin
  exact List.any_eq_true.2 ⟨l[i], List.getElem_mem _, by simpa using h⟩
theorem rising_lt {l : List ByteArray} (h : rising l = true) : ∀ (j i : Nat) (hj : j < i) (hi : i < l.length), slt (l[j]'(by omega)) l[i] = true := by
  induction l with
  | nil => intro j i hj hi; simp at hi
  | cons a r ih =>
    intro j i hj hi
    match i, hj, hi with
    | i + 1, hj, hi =>
      cases j with
      | zero => exact rising_head h _ (by simp)
      | succ j => exact ih (rising_tail h) j i (by omega) (by simpa using hi)
theorem at_below {l : List ByteArray} (h : rising l = true) (key : ByteArray) (i : Nat) (hi : i < l.length) (he : l[i].toList = key.toList) : i = below l key := by
  have h1 := below_iff h key i _ (List.getElem?_eq_getElem hi)
  rw [slt_congr he, slt_irrefl] at h1
  have h2 : below l key ≤ i := by have := of_decide_eq_false h1.symm; omega
  rcases Nat.lt_or_ge (below l key) i with hlt | hge
  · exfalso
    have h3 := below_iff h key (below l key) _ (List.getElem?_eq_getElem (by omega))
    rw [show decide (below l key < below l key) = false by simp] at h3
    have h4 := rising_lt h (below l key) i hlt hi
    rw [slt_congr2 he, h3] at h4
    cases h4
  · omega
theorem rising_takeN {l : List ByteArray} (h : rising l = true) (m : Nat) : rising (l.take m) = true := by
  cases hc : rising (l.take m) with
  | true => rfl
  | false => rw [rising_not l m hc] at h; cases h
theorem rising_dropN {l : List ByteArray} (h : rising l = true) (m : Nat) : rising (l.drop m) = true := by
  induction m generalizing l with
  | zero => exact h
  | succ m ih =>
    cases l with
    | nil => rfl
    | cons a r => exact ih (rising_tail h)
theorem isin_takeN {l : List ByteArray} (h : rising l = true) (key : ByteArray) (m : Nat) : isin (l.take m) key = (isin l key && decide (below l key < m)) := by
  rw [Bool.eq_iff_iff, Bool.and_eq_true, decide_eq_true_iff]
  constructor
  · intro hi
    unfold isin at hi
    obtain ⟨x, hx, he⟩ := List.any_eq_true.1 hi
    obtain ⟨i, hi1, rfl⟩ := List.mem_take_iff_getElem.1 hx
    have hil : i < l.length := by omega
    have he2 : l[i].toList = key.toList := by simpa using he
    refine ⟨isin_of key i hil he2, ?_⟩
    rw [← at_below h key i hil he2]; omega
  · rintro ⟨hi, hb⟩
    obtain ⟨x, hx, he⟩ := (isin_iff h key).1 hi
    unfold isin
    refine List.any_eq_true.2 ⟨x, ?_, by simpa using he⟩
    obtain ⟨hlt, hxe⟩ := List.getElem?_eq_some_iff.1 hx
    exact List.mem_take_iff_getElem.2 ⟨below l key, by omega, hxe⟩
theorem isin_dropN {l : List ByteArray} (h : rising l = true) (key : ByteArray) (m : Nat) : isin (l.drop m) key = (isin l key && decide (m ≤ below l key)) := by
  rw [Bool.eq_iff_iff, Bool.and_eq_true, decide_eq_true_iff]
  constructor
  · intro hi
    unfold isin at hi
    obtain ⟨x, hx, he⟩ := List.any_eq_true.1 hi
    obtain ⟨i, hi1, hxe⟩ := List.mem_iff_getElem.1 hx
    have hil : m + i < l.length := by rw [List.length_drop] at hi1; omega
    have hxe2 : l[m + i] = x := by rw [← hxe, List.getElem_drop]
    have he2 : l[m + i].toList = key.toList := by rw [hxe2]; simpa using he
    refine ⟨isin_of key (m + i) hil he2, ?_⟩
    rw [← at_below h key (m + i) hil he2]; omega
  · rintro ⟨hi, hb⟩
    obtain ⟨x, hx, he⟩ := (isin_iff h key).1 hi
    obtain ⟨hlt, hxe⟩ := List.getElem?_eq_some_iff.1 hx
    unfold isin
    refine List.any_eq_true.2 ⟨x, ?_, by simpa using he⟩
    refine List.mem_iff_getElem.2 ⟨below l key - m, by rw [List.length_drop]; omega, ?_⟩
    rw [List.getElem_drop]
    simp only [Nat.add_sub_cancel' hb]
    exact hxe
/-- A key that is in a list of rising ones stands to the m-th as its place to m. -/
theorem slt_mid {l : List ByteArray} (h : rising l = true) (key : ByteArray) (m : Nat) (hm : m < l.length) (hi : isin l key = true) : slt key l[m] = decide (below l key < m) := by
  obtain ⟨x, hx, he⟩ := (isin_iff h key).1 hi
  obtain ⟨hlt, hxe⟩ := List.getElem?_eq_some_iff.1 hx
  rw [← slt_congr he, below_iff h l[m] (below l key) x hx, ← at_below h l[m] m hm rfl]

end Go.Proofs.Ytpdlbebiapimoaa.PN
