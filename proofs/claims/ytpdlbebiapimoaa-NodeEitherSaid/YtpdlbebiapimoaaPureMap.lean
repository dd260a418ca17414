/- A leaf is told by which key has which value: putting and dropping by that -/
import Derived.Test.YtpdlbebiapimoaaPurePl
import Derived.Test.YtpdlbebiapimoaaPureDrop
namespace Go.Proofs.Ytpdlbebiapimoaa.PN
open Go.RowKit Go.Proofs.YtpdlbebiapimoaaW.PrintWords Go.Proofs.YtpdlbebiapimoaaW.PrintLast Go.Proofs.YtpdlbebiapimoaaW.PrintMore
set_option linter.unusedVariables false
set_option linter.unusedSimpArgs false
theorem tl_ext {a b : ByteArray} (h : a.toList = b.toList) : a = b := by
  rw [ByteArray.toList_eq, ByteArray.toList_eq] at h
  cases a with
  | mk a => cases b with
    | mk b => have : a = b := Array.toList_inj.1 h; rw [this]
theorem rising_pw {l : List ByteArray} : rising l = true ↔ l.Pairwise (fun a b => slt a b = true) := by
  induction l with
  | nil => simp [rising]
  | cons a r ih =>
    constructor
    · intro h
      exact List.pairwise_cons.2 ⟨rising_head h, ih.1 (rising_tail h)⟩
    · intro h
      obtain ⟨h1, h2⟩ := List.pairwise_cons.1 h
      exact rising_cons h1 (ih.2 h2)
theorem isin_mem {l : List ByteArray} {key : ByteArray} : isin l key = true ↔ key ∈ l := by
  unfold isin
  rw [List.any_eq_true]
  constructor
  · rintro ⟨x, hx, he⟩
    have := tl_ext (of_decide_eq_true he)
    rwa [← this]
  · intro h
    exact ⟨key, h, by simp⟩
/-- Two leaves with the same pairs are the same. -/
theorem zip_ext : ∀ (ks vs ks' vs' : List ByteArray), rising ks = true → rising ks' = true → vs.length = ks.length → vs'.length = ks'.length →
    (∀ k v, (k, v) ∈ ks.zip vs ↔ (k, v) ∈ ks'.zip vs') → ks = ks' ∧ vs = vs'
  | [], vs, ks', vs', _, _, hl, hl', h => by
    have e1 : vs = [] := List.eq_nil_of_length_eq_zero (by simpa using hl)
    subst e1
    cases ks' with
    | nil => exact ⟨rfl, (List.eq_nil_of_length_eq_zero (by simpa using hl')).symm⟩
    | cons b s =>
      cases vs' with
      | nil => simp at hl'
      | cons v' t => exact absurd ((h b v').2 (by simp)) (by simp)
  | a :: r, [], _, _, _, _, hl, _, _ => by simp at hl
  | a :: r, v :: t, [], vs', _, _, _, _, h => absurd ((h a v).1 (by simp)) (by simp)
  | a :: r, v :: t, b :: s, [], _, _, _, hl', _ => by simp at hl'
  | a :: r, v :: t, b :: s, v' :: t', hr, hr', hl, hl', h => by
    have h1 := rising_head hr
    have h2 := rising_head hr'
    have hab : a = b := by
      have m1 := (h a v).1 (by simp)
      have m2 := (h b v').2 (by simp)
      rw [List.zip_cons_cons, List.mem_cons] at m1 m2
      rcases m1 with m1 | m1
      · exact (Prod.mk.inj m1).1
      · rcases m2 with m2 | m2
        · exact (Prod.mk.inj m2).1.symm
        · have q1 := h2 a (List.of_mem_zip m1).1
          have q2 := h1 b (List.of_mem_zip m2).1
          rw [slt_asymm q1] at q2
          cases q2
    subst hab
    have na : ∀ x, x ∈ r → x ≠ a := fun x hx e => by have := h1 x hx; rw [e, slt_irrefl] at this; cases this
    have na' : ∀ x, x ∈ s → x ≠ a := fun x hx e => by have := h2 x hx; rw [e, slt_irrefl] at this; cases this
    have hv : v = v' := by
      have m1 := (h a v).1 (by simp)
      rw [List.zip_cons_cons, List.mem_cons] at m1
      rcases m1 with m1 | m1
      · exact (Prod.mk.inj m1).2
      · exact absurd rfl (na' a (List.of_mem_zip m1).1)
    subst hv
    obtain ⟨e1, e2⟩ := zip_ext r t s t' (rising_tail hr) (rising_tail hr') (by simpa using hl) (by simpa using hl') (fun k w => by
      constructor
      · intro hm
        have := (h k w).1 (by rw [List.zip_cons_cons]; exact List.mem_cons_of_mem _ hm)
        rw [List.zip_cons_cons, List.mem_cons] at this
        rcases this with e | e
        · exact absurd (Prod.mk.inj e).1 (na k (List.of_mem_zip hm).1)
        · exact e
      · intro hm
        have := (h k w).2 (by rw [List.zip_cons_cons]; exact List.mem_cons_of_mem _ hm)
        rw [List.zip_cons_cons, List.mem_cons] at this
        rcases this with e | e
        · exact absurd (Prod.mk.inj e).1 (na' k (List.of_mem_zip hm).1)
        · exact e)
    exact ⟨by rw [e1], by rw [e2]⟩
theorem mem_at {ks vs : List ByteArray} {k v : ByteArray} : (k, v) ∈ ks.zip vs ↔ ∃ (i : Nat) (h : i < ks.length) (h2 : i < vs.length), ks[i] = k ∧ vs[i] = v := by
  constructor
  · intro h
    obtain ⟨i, hi, e⟩ := List.mem_iff_getElem.1 h
    rw [List.length_zip] at hi
    rw [List.getElem_zip] at e
    exact ⟨i, by omega, by omega, (Prod.mk.inj e).1, (Prod.mk.inj e).2⟩
  · rintro ⟨i, h, h2, rfl, rfl⟩
    have : (ks.zip vs)[i]'(by rw [List.length_zip]; omega) = (ks[i], vs[i]) := List.getElem_zip
    rw [← this]
    exact List.getElem_mem _
/-- The value of a key that is there. -/
theorem mem_val {ks vs : List ByteArray} (hr : rising ks = true) {k v : ByteArray} (h : (k, v) ∈ ks.zip vs) : isin ks k = true ∧ ∃ h2 : below ks k < vs.length, vs[below ks k] = v := by
  obtain ⟨i, hi, hi2, rfl, rfl⟩ := mem_at.1 h
  have e := at_below hr ks[i] i hi rfl
  refine ⟨isin_of _ i hi rfl, ?_⟩
  rw [← e]
  exact ⟨hi2, rfl⟩
theorem mem_of {ks vs : List ByteArray} (hr : rising ks = true) (hl : vs.length = ks.length) {k : ByteArray} (h : isin ks k = true) : ∃ h2 : below ks k < vs.length, (k, vs[below ks k]) ∈ ks.zip vs := by
  obtain ⟨x, hx, he⟩ := (isin_iff hr k).1 h
  obtain ⟨hlt, hxe⟩ := List.getElem?_eq_some_iff.1 hx
  refine ⟨by omega, mem_at.2 ⟨below ks k, hlt, by omega, ?_, rfl⟩⟩
  rw [hxe]
  exact tl_ext he
def cin (ks : List ByteArray) (key : ByteArray) : Nat := if isin ks key then 1 else 0
def putK (ks : List ByteArray) (key : ByteArray) : List ByteArray := ks.take (below ks key) ++ [key] ++ ks.drop (below ks key + cin ks key)
def putV (ks vs : List ByteArray) (key value : ByteArray) : List ByteArray := vs.take (below ks key) ++ [value] ++ vs.drop (below ks key + cin ks key)
theorem cin_le {ks : List ByteArray} (hr : rising ks = true) (key : ByteArray) : below ks key + cin ks key ≤ ks.length := by
  have h1 := below_le ks key
  unfold cin
  split
  · rename_i h; have := isin_lt hr key h; omega
  · omega
theorem putK_len {ks : List ByteArray} (hr : rising ks = true) (key : ByteArray) : (putK ks key).length + cin ks key = ks.length + 1 := by
  have := cin_le hr key
  unfold putK
  simp only [List.length_append, List.length_take, List.length_drop, List.length_cons, List.length_nil]
  omega
theorem putV_len {ks vs : List ByteArray} (hr : rising ks = true) (hl : vs.length = ks.length) (key value : ByteArray) : (putV ks vs key value).length = (putK ks key).length := by
  have := cin_le hr key
  unfold putV putK
  simp only [List.length_append, List.length_take, List.length_drop, List.length_cons, List.length_nil]
  omega
theorem take_slt {ks : List ByteArray} (hr : rising ks = true) (key : ByteArray) (i : Nat) (hi : i < ks.length) (h : i < below ks key) : slt ks[i] key = true := by
  rw [below_iff hr key i _ (List.getElem?_eq_getElem hi), decide_eq_true h]
theorem drop_slt {ks : List ByteArray} (hr : rising ks = true) (key : ByteArray) (i : Nat) (hi : i < ks.length) (h : below ks key + cin ks key ≤ i) : slt key ks[i] = true := by
  have h1 : slt ks[i] key = false := by rw [below_iff hr key i _ (List.getElem?_eq_getElem hi)]; simp; omega
  cases h2 : slt key ks[i] with
  | true => rfl
  | false =>
    exfalso
    have he := slt_total h1 h2
    have e := at_below hr key i hi he
    have : cin ks key = 1 := by unfold cin; rw [isin_of key i hi he]; rfl
    omega
theorem putK_rising {ks : List ByteArray} (hr : rising ks = true) (key : ByteArray) : rising (putK ks key) = true := by
  have hp := rising_pw.1 hr
  rw [rising_pw]
  unfold putK
  have ht : ∀ a ∈ ks.take (below ks key), slt a key = true := fun a ha => by
    obtain ⟨i, hi, rfl⟩ := List.mem_take_iff_getElem.1 ha
    exact take_slt hr key i (by omega) (by omega)
  have hd : ∀ b ∈ ks.drop (below ks key + cin ks key), slt key b = true := fun b hb => by
    obtain ⟨i, hi, e⟩ := List.mem_iff_getElem.1 hb
    rw [← e, List.getElem_drop]
    exact drop_slt hr key _ _ (by omega)
  rw [List.append_assoc, List.pairwise_append]
  refine ⟨hp.sublist (List.take_sublist _ _), ?_, ?_⟩
  · rw [List.singleton_append, List.pairwise_cons]
    exact ⟨hd, hp.sublist (List.drop_sublist _ _)⟩
  · intro a ha b hb
    rw [List.singleton_append, List.mem_cons] at hb
    rcases hb with rfl | hb
    · exact ht a ha
    · exact slt_trans (ht a ha) (hd b hb)
theorem put_zip {ks vs : List ByteArray} (hr : rising ks = true) (hl : vs.length = ks.length) (key value : ByteArray) :
    (putK ks key).zip (putV ks vs key value) = (ks.zip vs).take (below ks key) ++ [(key, value)] ++ (ks.zip vs).drop (below ks key + cin ks key) := by
  unfold putK putV
  rw [List.zip_append (by simp only [List.length_append, List.length_take, List.length_cons, List.length_nil]; omega), List.zip_append (by rw [List.length_take, List.length_take]; omega)]
  congr 1
  · congr 1
    simp [List.zip, List.take_zipWith]
  · simp [List.zip, List.drop_zipWith]
/-- What was put is there; nothing else is changed. -/
theorem put_mem {ks vs : List ByteArray} (hr : rising ks = true) (hl : vs.length = ks.length) (key value k v : ByteArray) :
    (k, v) ∈ (putK ks key).zip (putV ks vs key value) ↔ (k = key ∧ v = value) ∨ (k ≠ key ∧ (k, v) ∈ ks.zip vs) := by
  have hz : (ks.zip vs).length = ks.length := by rw [List.length_zip, hl]; omega
  rw [put_zip hr hl, List.mem_append, List.mem_append, List.mem_singleton]
  constructor
  · rintro ((h | h) | h)
    · right
      obtain ⟨i, hi, e⟩ := List.mem_take_iff_getElem.1 h
      rw [List.getElem_zip] at e
      obtain ⟨rfl, rfl⟩ := Prod.mk.inj e
      refine ⟨fun e => ?_, List.mem_of_mem_take h⟩
      have := take_slt hr key i (by omega) (by omega)
      rw [e, slt_irrefl] at this
      cases this
    · exact .inl (Prod.mk.inj h)
    · right
      obtain ⟨i, hi, e⟩ := List.mem_iff_getElem.1 h
      rw [List.getElem_drop, List.getElem_zip] at e
      obtain ⟨rfl, rfl⟩ := Prod.mk.inj e
      refine ⟨fun e => ?_, List.mem_of_mem_drop h⟩
      rw [List.length_drop, hz] at hi
      have := drop_slt hr key (below ks key + cin ks key + i) (by omega) (by omega)
      rw [e, slt_irrefl] at this
      cases this
  · rintro (⟨rfl, rfl⟩ | ⟨hne, h⟩)
    · exact .inl (.inr rfl)
    · obtain ⟨i, hi, hi2, rfl, rfl⟩ := mem_at.1 h
      have hzi : (ks.zip vs)[i]'(by omega) = (ks[i], vs[i]) := List.getElem_zip
      by_cases h1 : i < below ks key
      · left; left
        rw [← hzi]
        exact List.mem_take_iff_getElem.2 ⟨i, by omega, rfl⟩
      · by_cases h2 : below ks key + cin ks key ≤ i
        · right
          rw [← hzi]
          refine List.mem_iff_getElem.2 ⟨i - (below ks key + cin ks key), by rw [List.length_drop]; omega, ?_⟩
          rw [List.getElem_drop]
          congr 1
          omega
        · exfalso
          have h4 : isin ks key = true := by
            cases hq : isin ks key with
            | true => rfl
            | false => exfalso; have : cin ks key = 0 := by unfold cin; rw [hq]; rfl
                       omega
          have h3 : cin ks key = 1 := by unfold cin; rw [h4]; rfl
          obtain ⟨x, hx, he⟩ := (isin_iff hr key).1 h4
          obtain ⟨_, hxe⟩ := List.getElem?_eq_some_iff.1 hx
          have : i = below ks key := by omega
          subst this
          exact hne (by rw [hxe]; exact tl_ext he)
def dropK (ks : List ByteArray) (key : ByteArray) : List ByteArray := if isin ks key then ks.take (below ks key) ++ ks.drop (below ks key + 1) else ks
def dropV (ks vs : List ByteArray) (key : ByteArray) : List ByteArray := if isin ks key then vs.take (below ks key) ++ vs.drop (below ks key + 1) else vs
theorem drop_R {ks vs : List ByteArray} (hr : rising ks = true) (hl : vs.length = ks.length) (key : ByteArray) : (dropR key ks vs).map (·.1) = dropK ks key ∧ (dropR key ks vs).map (·.2) = dropV ks vs key := by
  unfold dropK dropV
  cases hi : isin ks key with
  | true => simpa using dropR_in hr hl key hi
  | false => simpa using dropR_out hr hl key hi
theorem drop_zip {ks vs : List ByteArray} (hr : rising ks = true) (hl : vs.length = ks.length) (key : ByteArray) : (dropK ks key).zip (dropV ks vs key) = dropR key ks vs := by
  obtain ⟨e1, e2⟩ := drop_R hr hl key
  rw [← e1, ← e2]
  generalize dropR key ks vs = l
  induction l with
  | nil => rfl
  | cons x r ih => simp only [List.map_cons, List.zip_cons_cons, ih]
theorem drop_mem {ks vs : List ByteArray} (hr : rising ks = true) (hl : vs.length = ks.length) (key k v : ByteArray) :
    (k, v) ∈ (dropK ks key).zip (dropV ks vs key) ↔ k ≠ key ∧ (k, v) ∈ ks.zip vs := by
  rw [drop_zip hr hl]
  unfold dropR
  rw [List.mem_filter]
  constructor
  · rintro ⟨h1, h2⟩
    exact ⟨fun e => by subst e; simp at h2, h1⟩
  · rintro ⟨h1, h2⟩
    exact ⟨h2, by simp; exact fun e => h1 (tl_ext e)⟩
theorem dropV_len {ks vs : List ByteArray} (hr : rising ks = true) (hl : vs.length = ks.length) (key : ByteArray) : (dropV ks vs key).length = (dropK ks key).length := by
  obtain ⟨e1, e2⟩ := drop_R hr hl key
  rw [← e1, ← e2, List.length_map, List.length_map]
theorem dropK_sub {ks : List ByteArray} (key : ByteArray) : (dropK ks key).Sublist ks := by
  unfold dropK
  split
  · have h := List.Sublist.append (List.Sublist.refl (ks.take (below ks key))) (show (ks.drop (below ks key + 1)).Sublist (ks.drop (below ks key)) by rw [← List.drop_drop]; exact List.drop_sublist _ _)
    rwa [List.take_append_drop] at h
  · exact List.Sublist.refl _
theorem dropV_sub {ks vs : List ByteArray} (key : ByteArray) : (dropV ks vs key).Sublist vs := by
  unfold dropV
  split
  · have h := List.Sublist.append (List.Sublist.refl (vs.take (below ks key))) (show (vs.drop (below ks key + 1)).Sublist (vs.drop (below ks key)) by rw [← List.drop_drop]; exact List.drop_sublist _ _)
    rwa [List.take_append_drop] at h
  · exact List.Sublist.refl _
theorem dropK_rising {ks : List ByteArray} (hr : rising ks = true) (key : ByteArray) : rising (dropK ks key) = true := rising_pw.2 ((rising_pw.1 hr).sublist (dropK_sub key))
theorem dropK_not {ks : List ByteArray} (hr : rising ks = true) (key : ByteArray) : isin (dropK ks key) key = false := by
  cases h : isin (dropK ks key) key with
  | false => rfl
  | true =>
    obtain ⟨h2, hm⟩ := mem_of (vs := dropV ks ks key) (dropK_rising hr key) (dropV_len hr rfl key) h
    exact absurd rfl ((drop_mem hr rfl key key _).1 hm).1
/-- A key's value in a leaf, with a letter ahead; nothing: it isn't there. -/
def gotS (ks vs : List ByteArray) (o : ByteArray) : ByteArray := if isin ks o then (⟨#[61]⟩ : ByteArray) ++ vs.getD (below ks o) ⟨#[]⟩ else ⟨#[]⟩
theorem got_ext {ks vs ks' vs' : List ByteArray} (hr : rising ks = true) (hl : vs.length = ks.length) (hr' : rising ks' = true) (hl' : vs'.length = ks'.length) (o : ByteArray)
    (h : ∀ v, (o, v) ∈ ks.zip vs ↔ (o, v) ∈ ks'.zip vs') : gotS ks vs o = gotS ks' vs' o := by
  unfold gotS
  cases h1 : isin ks o with
  | true =>
    obtain ⟨hb, hm⟩ := mem_of hr hl h1
    obtain ⟨h3, hb', e⟩ := mem_val hr' ((h _).1 hm)
    rw [h3]
    simp only [if_true]
    rw [List.getD_eq_getElem?_getD, List.getD_eq_getElem?_getD, List.getElem?_eq_getElem hb, List.getElem?_eq_getElem hb', e]
  | false =>
    cases h2 : isin ks' o with
    | false => rfl
    | true =>
      obtain ⟨hb, hm⟩ := mem_of hr' hl' h2
      rw [(mem_val hr ((h _).2 hm)).1] at h1
      cases h1
end Go.Proofs.Ytpdlbebiapimoaa.PN
