/- The order of texts, byte by byte; where a key stands in a rising row -/
import Derived.Test.YtpdlbebiapimoaaHDefs
namespace Go.Proofs.Ytpdlbebiapimoaa.PN
open Go.RowKit Go.Proofs.YtpdlbebiapimoaaW.PrintWords Go.Proofs.YtpdlbebiapimoaaW.PrintLast Go.Proofs.YtpdlbebiapimoaaW.PrintMore
set_option linter.unusedVariables false
set_option linter.unusedSimpArgs false
theorem bl_irrefl (x : List UInt8) : Op.bytesLess x x = false := by
  induction x with
  | nil => rfl
  | cons a r ih => simp [Op.bytesLess, ih]
theorem bl_trans (x y z : List UInt8) (h1 : Op.bytesLess x y = true) (h2 : Op.bytesLess y z = true) : Op.bytesLess x z = true := by
  induction x generalizing y z with
  | nil =>
    match y, z, h1, h2 with
    | _ :: _, _ :: _, _, _ => rfl
  | cons a x ih =>
    match y, z, h1, h2 with
    | b :: y, c :: z, h1, h2 =>
      simp only [Op.bytesLess, Bool.or_eq_true, decide_eq_true_eq, Bool.and_eq_true, beq_iff_eq] at h1 h2 ⊢
      rcases h1 with h1 | ⟨rfl, h1⟩
      · rcases h2 with h2 | ⟨rfl, h2⟩
        · exact .inl (UInt8.lt_trans h1 h2)
        · exact .inl h1
      · rcases h2 with h2 | ⟨rfl, h2⟩
        · exact .inl h2
        · exact .inr ⟨rfl, ih y z h1 h2⟩
theorem bl_total (x y : List UInt8) (h1 : Op.bytesLess x y = false) (h2 : Op.bytesLess y x = false) : x = y := by
  induction x generalizing y with
  | nil =>
    match y, h1 with
    | [], _ => rfl
  | cons a x ih =>
    match y, h1, h2 with
    | b :: y, h1, h2 =>
      simp only [Op.bytesLess, Bool.or_eq_false_iff, decide_eq_false_iff_not, Bool.and_eq_false_iff, beq_eq_false_iff_ne, ne_eq] at h1 h2
      have hab : a = b := by
        rcases UInt8.lt_or_lt_of_ne (a := a) (b := b) |> fun f => Classical.em (a = b) with h | h
        · exact h
        · rcases UInt8.lt_or_lt_of_ne h with h | h
          · exact absurd h h1.1
          · exact absurd h h2.1
      subst hab
      have e1 : Op.bytesLess x y = false := by simpa using h1.2
      have e2 : Op.bytesLess y x = false := by simpa using h2.2
      rw [ih y e1 e2]
theorem slt_irrefl (a : ByteArray) : slt a a = false := bl_irrefl _
theorem slt_trans {a b c : ByteArray} (h1 : slt a b = true) (h2 : slt b c = true) : slt a c = true := bl_trans _ _ _ h1 h2
theorem slt_asymm {a b : ByteArray} (h : slt a b = true) : slt b a = false := by
  cases h2 : slt b a with
  | false => rfl
  | true => have := slt_trans h h2; rw [slt_irrefl] at this; cases this
theorem slt_total {a b : ByteArray} (h1 : slt a b = false) (h2 : slt b a = false) : a.toList = b.toList := bl_total _ _ h1 h2
theorem slt_congr {a b c : ByteArray} (h : a.toList = b.toList) : slt a c = slt b c := by unfold slt; rw [h]
theorem slt_congr2 {a b c : ByteArray} (h : a.toList = b.toList) : slt c a = slt c b := by unfold slt; rw [h]
theorem slt_ne {a b : ByteArray} (h : slt a b = true) : a.toList ≠ b.toList := fun e => by rw [slt_congr e, slt_irrefl] at h; cases h
theorem rising_tail {a : ByteArray} {r : List ByteArray} (h : rising (a :: r) = true) : rising r = true := by
  match r, h with
  | [], _ => rfl
  | b :: r, h => simp only [rising, Bool.and_eq_true] at h; exact h.2
theorem rising_head {a : ByteArray} {r : List ByteArray} (h : rising (a :: r) = true) : ∀ x ∈ r, slt a x = true := by
  induction r generalizing a with
  | nil => intro x hx; cases hx
  | cons b r ih =>
    simp only [rising, Bool.and_eq_true] at h
    intro x hx
    rcases List.mem_cons.1 hx with rfl | hx
    · exact h.1
    · exact slt_trans h.1 (ih h.2 x hx)
theorem rising_cons {a : ByteArray} {r : List ByteArray} (h1 : ∀ x ∈ r, slt a x = true) (h2 : rising r = true) : rising (a :: r) = true := by
  match r, h1, h2 with
  | [], _, _ => rfl
  | b :: r, h1, h2 => simp only [rising, Bool.and_eq_true]; exact ⟨h1 b (by simp), h2⟩
/-- In a rising row the places ahead of 'below' are those whose key is below. -/
theorem below_iff {l : List ByteArray} (h : rising l = true) (key : ByteArray) (i : Nat) (x : ByteArray) (hx : l[i]? = some x) : slt x key = decide (i < below l key) := by
  induction l generalizing i with
  | nil => simp at hx
  | cons a r ih =>
    unfold below
    rw [List.countP_cons]
    cases ha : slt a key with
    | true =>
      cases i with
      | zero => simp at hx; subst hx; simp [ha]
      | succ i =>
        have := ih (rising_tail h) i (by simpa using hx)
        rw [this]
        unfold below
        simp
    | false =>
      have hz : r.countP (fun x => slt x key) = 0 := by
        rw [List.countP_eq_zero]
        intro y hy hk
        rw [slt_trans (rising_head h y hy) hk] at ha
        cases ha
      rw [hz]
      cases i with
      | zero => simp at hx; subst hx; simp [ha]
      | succ i =>
        have hm : x ∈ r := List.mem_of_getElem? (by simpa using hx)
        cases hk : slt x key with
        | false => simp
        | true => rw [slt_trans (rising_head h x hm) hk] at ha; cases ha
theorem below_le (l : List ByteArray) (key : ByteArray) : below l key ≤ l.length := List.countP_le_length
theorem isin_iff {l : List ByteArray} (h : rising l = true) (key : ByteArray) : isin l key = true ↔ ∃ x, l[below l key]? = some x ∧ x.toList = key.toList := by
  unfold isin
  rw [List.any_eq_true]
  constructor
  · rintro ⟨x, hm, he⟩
    have he : x.toList = key.toList := by simpa using he
    obtain ⟨i, hi⟩ := List.getElem?_of_mem hm
    have h1 := below_iff h key i x hi
    rw [slt_congr he, slt_irrefl] at h1
    have h1 : below l key ≤ i := by have := of_decide_eq_false h1.symm; omega
    have hle : i < l.length := (List.getElem?_eq_some_iff.1 hi).1
    rcases Nat.lt_or_ge (below l key) i with hlt | hge
    · have hb : below l key < l.length := by omega
      have h2 := below_iff h key (below l key) _ (List.getElem?_eq_getElem hb)
      rw [show decide (below l key < below l key) = false by simp] at h2
      have h3 := below_iff h x (below l key) _ (List.getElem?_eq_getElem hb)
      rw [slt_congr2 he, h2] at h3
      have h4 : below l x = below l key := by unfold below; refine List.countP_congr (fun y _ => by rw [slt_congr2 he])
      have h5 := below_iff h x i x hi
      exfalso
      -- x stands at i, all ahead are below it
      have : slt (l[below l key]) x = true := by
        have hp : ∀ (l : List ByteArray), rising l = true → ∀ (j i : Nat) (hj : j < i) (hi : i < l.length), slt (l[j]'(by omega)) l[i] = true := by
          intro l hl
          induction l with
          | nil => intro j i hj hi; simp at hi
          | cons a r ih =>
            intro j i hj hi
            match i, hj, hi with
            | i + 1, hj, hi =>
              cases j with
              | zero => exact rising_head hl _ (by simp)
              | succ j => exact ih (rising_tail hl) j i (by omega) (by simpa using hi)
        have := hp l h (below l key) i hlt hle
        rwa [(List.getElem?_eq_some_iff.1 hi).2] at this
      rw [slt_congr2 he, h2] at this
      cases this
    · obtain rfl : i = below l key := by omega
      exact ⟨x, hi, he⟩
  · rintro ⟨x, hi, he⟩
    exact ⟨x, List.mem_of_getElem? hi, by simpa using he⟩
theorem isin_at {l : List ByteArray} (h : rising l = true) (key : ByteArray) (x : ByteArray) (hx : l[below l key]? = some x) : isin l key = decide (x.toList = key.toList) := by
  cases hi : isin l key with
  | true =>
    obtain ⟨y, hy, he⟩ := (isin_iff h key).1 hi
    rw [hx] at hy
    cases hy
    simp [he]
  | false =>
    by_cases he : x.toList = key.toList
    · have := (isin_iff h key).2 ⟨x, hx, he⟩
      rw [hi] at this
      cases this
    · simp [he]
theorem isin_end {l : List ByteArray} (h : rising l = true) (key : ByteArray) (hx : l.length ≤ below l key) : isin l key = false := by
  cases hi : isin l key with
  | false => rfl
  | true =>
    obtain ⟨y, hy, _⟩ := (isin_iff h key).1 hi
    rw [List.getElem?_eq_none hx] at hy
    cases hy

end Go.Proofs.Ytpdlbebiapimoaa.PN
