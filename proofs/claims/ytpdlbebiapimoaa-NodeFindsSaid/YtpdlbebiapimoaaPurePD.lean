/- Where a key stands among rising ones; What the document drops is what the program drops; What the document puts is what the program puts -/
import Derived.Test.YtpdlbebiapimoaaHDefs
import Derived.Test.YtpdlbebiapimoaaHSort
namespace Go.Proofs.Ytpdlbebiapimoaa.PN
open Go.RowKit Go.Proofs.YtpdlbebiapimoaaW.PrintWords Go.Proofs.YtpdlbebiapimoaaW.PrintLast Go.Proofs.YtpdlbebiapimoaaW.PrintMore
set_option linter.unusedVariables false
set_option linter.unusedSimpArgs false
theorem find_eq (b : Bool) (ks vs : List ByteArray) (cs : List Int) (key : ByteArray) (hr : rising ks = true) (hl : ks.length ≤ 100000) :
    node_Find.f b ks vs cs key = some ((if isin ks key && !b then (below ks key : Int) + 1 else (below ks key : Int)), isin ks key) := by
  unfold node_Find.f
  rw [if_pos ⟨hr, hl⟩]
theorem isin_lt {l : List ByteArray} (h : rising l = true) (key : ByteArray) (hi : isin l key = true) : below l key < l.length := by
  obtain ⟨x, hx, _⟩ := (isin_iff h key).1 hi
  exact (List.getElem?_eq_some_iff.1 hx).1
theorem isin_of {l : List ByteArray} (key : ByteArray) (i : Nat) (hi : i < l.length) (h : l[i].toList = key.toList) : isin l key = true := by
  unfold isin
  exact List.any_eq_true.2 ⟨l[i], List.getElem_mem _, by simpa using h⟩
theorem rising_lt {l : List ByteArray} (h : rising l = true) : ∀ (j i : Nat) (hj : j < i) (hi : i < l.length), slt (l[j]'(by omega)) l[i] = true := by
  induction l with
  | nil => intro j i hj hi; simp at hi
  | cons a r ih =>
    intro j i hj hi
    match i, hj, hi with
    | i + 1, hj, hi =>
      cases j with
      | zero => exact rising_head h _ (by simp)
      | succ j => exact ih (rising_tail h) j i (by omega) (by simpa using hi)
theorem at_below {l : List ByteArray} (h : rising l = true) (key : ByteArray) (i : Nat) (hi : i < l.length) (he : l[i].toList = key.toList) : i = below l key := by
  have h1 := below_iff h key i _ (List.getElem?_eq_getElem hi)
  rw [slt_congr he, slt_irrefl] at h1
  have h2 : below l key ≤ i := by have := of_decide_eq_false h1.symm; omega
  rcases Nat.lt_or_ge (below l key) i with hlt | hge
  · exfalso
    have h3 := below_iff h key (below l key) _ (List.getElem?_eq_getElem (by omega))
    rw [show decide (below l key < below l key) = false by simp] at h3
    have h4 := rising_lt h (below l key) i hlt hi
    rw [slt_congr2 he, h3] at h4
    cases h4
  · omega
theorem rising_takeN {l : List ByteArray} (h : rising l = true) (m : Nat) : rising (l.take m) = true := by
  cases hc : rising (l.take m) with
  | true => rfl
  | false => rw [rising_not l m hc] at h; cases h
theorem rising_dropN {l : List ByteArray} (h : rising l = true) (m : Nat) : rising (l.drop m) = true := by
  induction m generalizing l with
  | zero => exact h
  | succ m ih =>
    cases l with
    | nil => rfl
    | cons a r => exact ih (rising_tail h)
theorem isin_takeN {l : List ByteArray} (h : rising l = true) (key : ByteArray) (m : Nat) : isin (l.take m) key = (isin l key && decide (below l key < m)) := by
  rw [Bool.eq_iff_iff, Bool.and_eq_true, decide_eq_true_iff]
  constructor
  · intro hi
    unfold isin at hi
    obtain ⟨x, hx, he⟩ := List.any_eq_true.1 hi
    obtain ⟨i, hi1, rfl⟩ := List.mem_take_iff_getElem.1 hx
    have hil : i < l.length := by omega
    have he2 : l[i].toList = key.toList := by simpa using he
    refine ⟨isin_of key i hil he2, ?_⟩
    rw [← at_below h key i hil he2]; omega
  · rintro ⟨hi, hb⟩
    obtain ⟨x, hx, he⟩ := (isin_iff h key).1 hi
    unfold isin
    refine List.any_eq_true.2 ⟨x, ?_, by simpa using he⟩
    obtain ⟨hlt, hxe⟩ := List.getElem?_eq_some_iff.1 hx
    exact List.mem_take_iff_getElem.2 ⟨below l key, by omega, hxe⟩
theorem isin_dropN {l : List ByteArray} (h : rising l = true) (key : ByteArray) (m : Nat) : isin (l.drop m) key = (isin l key && decide (m ≤ below l key)) := by
  rw [Bool.eq_iff_iff, Bool.and_eq_true, decide_eq_true_iff]
  constructor
  · intro hi
    unfold isin at hi
    obtain ⟨x, hx, he⟩ := List.any_eq_true.1 hi
    obtain ⟨i, hi1, hxe⟩ := List.mem_iff_getElem.1 hx
    have hil : m + i < l.length := by rw [List.length_drop] at hi1; omega
    have hxe2 : l[m + i] = x := by rw [← hxe, List.getElem_drop]
    have he2 : l[m + i].toList = key.toList := by rw [hxe2]; simpa using he
    refine ⟨isin_of key (m + i) hil he2, ?_⟩
    rw [← at_below h key (m + i) hil he2]; omega
  · rintro ⟨hi, hb⟩
    obtain ⟨x, hx, he⟩ := (isin_iff h key).1 hi
    obtain ⟨hlt, hxe⟩ := List.getElem?_eq_some_iff.1 hx
    unfold isin
    refine List.any_eq_true.2 ⟨x, ?_, by simpa using he⟩
    refine List.mem_iff_getElem.2 ⟨below l key - m, by rw [List.length_drop]; omega, ?_⟩
    rw [List.getElem_drop]
    simp only [Nat.add_sub_cancel' hb]
    exact hxe
/-- A key that is in a list of rising ones stands to the m-th as its place to m. -/
theorem slt_mid {l : List ByteArray} (h : rising l = true) (key : ByteArray) (m : Nat) (hm : m < l.length) (hi : isin l key = true) : slt key l[m] = decide (below l key < m) := by
  obtain ⟨x, hx, he⟩ := (isin_iff h key).1 hi
  obtain ⟨hlt, hxe⟩ := List.getElem?_eq_some_iff.1 hx
  rw [← slt_congr he, below_iff h l[m] (below l key) x hx, ← at_below h l[m] m hm rfl]

end Go.Proofs.Ytpdlbebiapimoaa.PN
namespace Go.Proofs.Ytpdlbebiapimoaa.PN
open Go.RowKit Go.Proofs.YtpdlbebiapimoaaW.PrintWords Go.Proofs.YtpdlbebiapimoaaW.PrintLast Go.Proofs.YtpdlbebiapimoaaW.PrintMore
set_option linter.unusedVariables false
set_option linter.unusedSimpArgs false
theorem filter_one {α : Type} (l : List α) (p : α → Bool) (b : Nat) (hb : b < l.length) (h : p l[b] = false) (ho : ∀ i (hi : i < l.length), i ≠ b → p l[i] = true) : l.filter p = l.take b ++ l.drop (b + 1) := by
  have e : l = l.take b ++ l[b] :: l.drop (b + 1) := by rw [← List.drop_eq_getElem_cons hb, List.take_append_drop]
  have h1 : (l.take b).filter p = l.take b := List.filter_eq_self.2 fun x hx => by
    obtain ⟨i, hi, rfl⟩ := List.mem_take_iff_getElem.1 hx
    exact ho i (by omega) (by omega)
  have h2 : (l.drop (b + 1)).filter p = l.drop (b + 1) := List.filter_eq_self.2 fun x hx => by
    obtain ⟨i, hi, hx⟩ := List.mem_iff_getElem.1 hx
    rw [← hx, List.getElem_drop]
    exact ho (b + 1 + i) (by rw [List.length_drop] at hi; omega) (by omega)
  conv => lhs; rw [e]
  rw [List.filter_append, List.filter_cons, h, h1, h2]
  rfl
theorem dropR_in {ks vs : List ByteArray} (hr : rising ks = true) (hl : vs.length = ks.length) (key : ByteArray) (hi : isin ks key = true) :
    (dropR key ks vs).map (·.1) = ks.take (below ks key) ++ ks.drop (below ks key + 1) ∧ (dropR key ks vs).map (·.2) = vs.take (below ks key) ++ vs.drop (below ks key + 1) := by
  have hb := isin_lt hr key hi
  obtain ⟨x, hx, he⟩ := (isin_iff hr key).1 hi
  obtain ⟨_, hxe⟩ := List.getElem?_eq_some_iff.1 hx
  have hz : (ks.zip vs).length = ks.length := by rw [List.length_zip, hl]; omega
  have hd : dropR key ks vs = (ks.zip vs).take (below ks key) ++ (ks.zip vs).drop (below ks key + 1) := by
    unfold dropR
    refine filter_one _ _ _ (by omega) ?_ (fun i hi2 hne => ?_)
    · rw [List.getElem_zip]; simp [hxe, he]
    · rw [List.getElem_zip]
      have : ¬ (ks[i]'(by omega)).toList = key.toList := fun e => hne (at_below hr key i (by omega) e)
      simp [this]
  have e1 : (ks.zip vs).map (·.1) = ks := List.map_fst_zip (by omega)
  have e2 : (ks.zip vs).map (·.2) = vs := List.map_snd_zip (by omega)
  rw [hd]
  simp only [List.map_append, List.map_take, List.map_drop]
  exact ⟨by rw [e1], by rw [e2]⟩
theorem dropR_out {ks vs : List ByteArray} (hr : rising ks = true) (hl : vs.length = ks.length) (key : ByteArray) (hi : isin ks key = false) :
    (dropR key ks vs).map (·.1) = ks ∧ (dropR key ks vs).map (·.2) = vs := by
  have hz : (ks.zip vs).length = ks.length := by rw [List.length_zip, hl]; omega
  have hd : dropR key ks vs = ks.zip vs := by
    unfold dropR
    refine List.filter_eq_self.2 fun x hx => ?_
    obtain ⟨i, hi2, rfl⟩ := List.mem_iff_getElem.1 hx
    rw [List.getElem_zip]
    have : ¬ (ks[i]'(by omega)).toList = key.toList := fun e => by rw [isin_of key i (by omega) e] at hi; cases hi
    simp [this]
  rw [hd]
  exact ⟨List.map_fst_zip (by omega), List.map_snd_zip (by omega)⟩

end Go.Proofs.Ytpdlbebiapimoaa.PN
namespace Go.Proofs.Ytpdlbebiapimoaa.PN
open Go.RowKit Go.Proofs.YtpdlbebiapimoaaW.PrintWords Go.Proofs.YtpdlbebiapimoaaW.PrintLast Go.Proofs.YtpdlbebiapimoaaW.PrintMore
set_option linter.unusedVariables false
set_option linter.unusedSimpArgs false
theorem take_snoc {α : Type} (l : List α) (j : Nat) (hj : j < l.length) : l.take (j + 1) = l.take j ++ [l[j]] := by
  rw [List.take_add_one, List.getElem?_eq_getElem hj]; rfl
theorem putR_at {ks vs : List ByteArray} (hr : rising ks = true) (hl : vs.length = ks.length) (key value : ByteArray) : ∀ j, j ≤ ks.length →
    ((ks.zip vs).take j).foldl (putStep key value) ([], [], false) =
      if j ≤ below ks key then (ks.take j, vs.take j, false)
      else (ks.take (below ks key) ++ [key] ++ (ks.take j).drop (below ks key + if isin ks key then 1 else 0), vs.take (below ks key) ++ [value] ++ (vs.take j).drop (below ks key + if isin ks key then 1 else 0), true) := by
  intro j
  induction j with
  | zero => intro _; simp
  | succ j ih =>
    intro hj
    have hz : (ks.zip vs).length = ks.length := by rw [List.length_zip, hl]; omega
    have hjk : j < ks.length := by omega
    have hjv : j < vs.length := by omega
    rw [take_snoc (ks.zip vs) j (by omega), List.foldl_append, ih (by omega), List.getElem_zip]
    simp only [List.foldl_cons, List.foldl_nil]
    have hsl := below_iff hr key j _ (List.getElem?_eq_getElem hjk)
    have hne : j ≠ below ks key → ¬ (ks[j].toList = key.toList) := fun hn e => hn (at_below hr key j hjk e)
    generalize hb : below ks key = b at *
    rw [take_snoc ks j hjk, take_snoc vs j hjv]
    rcases Nat.lt_trichotomy j b with h | h | h
    · rw [if_pos (by omega), if_pos (by omega)]
      unfold putStep
      simp [hsl, h, hne (by omega)]
    · subst h
      rw [if_pos (Nat.le_refl _), if_neg (by omega)]
      unfold putStep
      cases hi : isin ks key with
      | true =>
        obtain ⟨x, hx, he⟩ := (isin_iff hr key).1 hi
        rw [hb] at hx
        obtain ⟨_, hxe⟩ := List.getElem?_eq_some_iff.1 hx
        have he2 : ks[j].toList = key.toList := by rw [hxe]; exact he
        simp [hsl, he2, List.drop_eq_nil_of_le]
      | false =>
        have hn : ¬ (ks[j].toList = key.toList) := fun e => by rw [isin_of key j hjk e] at hi; cases hi
        simp [hsl, hn]
        exact ⟨by rw [take_snoc ks j hjk, List.drop_left' (by rw [List.length_take]; omega)], by rw [take_snoc vs j hjv, List.drop_left' (by rw [List.length_take]; omega)]⟩
    · rw [if_neg (show ¬ j ≤ b by omega), if_neg (show ¬ j + 1 ≤ b by omega)]
      have hne2 := hne (by omega)
      obtain ⟨c, hc⟩ : ∃ c : Nat, c = if isin ks key = true then 1 else 0 := ⟨_, rfl⟩
      rw [← hc]
      have hbj : b + c ≤ j := by rw [hc]; split <;> omega
      clear hc
      have e1 : ((ks.take j) ++ [ks[j]]).drop (b + c) = (ks.take j).drop (b + c) ++ [ks[j]] := List.drop_append_of_le_length (by rw [List.length_take]; omega)
      have e2 : ((vs.take j) ++ [vs[j]]).drop (b + c) = (vs.take j).drop (b + c) ++ [vs[j]] := List.drop_append_of_le_length (by rw [List.length_take]; omega)
      rw [e1, e2]
      unfold putStep
      simp [hne2]

end Go.Proofs.Ytpdlbebiapimoaa.PN
