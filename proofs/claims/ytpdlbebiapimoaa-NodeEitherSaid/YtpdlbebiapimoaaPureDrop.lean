/- What the document drops is what the program drops -/
import Derived.Test.YtpdlbebiapimoaaPurePl
namespace Go.Proofs.Ytpdlbebiapimoaa.PN
open Go.RowKit Go.Proofs.YtpdlbebiapimoaaW.PrintWords Go.Proofs.YtpdlbebiapimoaaW.PrintLast Go.Proofs.YtpdlbebiapimoaaW.PrintMore
set_option linter.unusedVariables false
set_option linter.unusedSimpArgs false
theorem filter_one {α : Type} (l : List α) (p : α → Bool) (b : Nat) (hb : b < l.length) (h : p l[b] = false) (ho : ∀ i (hi : i < l.length), i ≠ b → p l[i] = true) : l.filter p = l.take b ++ l.drop (b + 1) := by
  have e : l = l.take b ++ l[b] :: l.drop (b + 1) := by rw [← List.drop_eq_getElem_cons hb, List.take_append_drop]
  have h1 : (l.take b).filter p = l.take b := List.filter_eq_self.2 fun x hx => by
    obtain ⟨i, hi, rfl⟩ := List.mem_take_iff_getElem.1 hx
    exact ho i (by omega) (by omega)
  have h2 : (l.drop (b + 1)).filter p = l.drop (b + 1) := List.filter_eq_self.2 fun x hx => by
    obtain ⟨i, hi, hx⟩ := List.mem_iff_getElem.1 hx
    rw [← hx, List.getElem_drop]
    exact ho (b + 1 + i) (by rw [List.length_drop] at hi; omega) (by omega)
  conv => lhs; rw [e]
  rw [List.filter_append, List.filter_cons, h, h1, h2]
  rfl
theorem dropR_in {ks vs : List ByteArray} (hr : rising ks = true) (hl : vs.length = ks.length) (key : ByteArray) (hi : isin ks key = true) :
    (dropR key ks vs).map (·.1) = ks.take (below ks key) ++ ks.drop (below ks key + 1) ∧ (dropR key ks vs).map (·.2) = vs.take (below ks key) ++ vs.drop (below ks key + 1) := by
  have hb := isin_lt hr key hi
  obtain ⟨x, hx, he⟩ := (isin_iff hr key).1 hi
  obtain ⟨_, hxe⟩ := List.getElem?_eq_some_iff.1 hx
  have hz : (ks.zip vs).length = ks.length := by rw [List.length_zip, hl]; omega
  have hd : dropR key ks vs = (ks.zip vs).take (below ks key) ++ (ks.zip vs).drop (below ks key + 1) := by
    unfold dropR
    refine filter_one _ _ _ (by omega) ?_ (fun i hi2 hne => ?_)
    · rw [List.getElem_zip]; simp [hxe, he]
    · rw [List.getElem_zip]
      have : ¬ (ks[i]'(by omega)).toList = key.toList := fun e => hne (at_below hr key i (by omega) e)
      simp [this]
  have e1 : (ks.zip vs).map (·.1) = ks := List.map_fst_zip (by omega)
  have e2 : (ks.zip vs).map (·.2) = vs := List.map_snd_zip (by omega)
  rw [hd]
  simp only [List.map_append, List.map_take, List.map_drop]
  exact ⟨by rw [e1], by rw [e2]⟩
theorem dropR_out {ks vs : List ByteArray} (hr : rising ks = true) (hl : vs.length = ks.length) (key : ByteArray) (hi : isin ks key = false) :
    (dropR key ks vs).map (·.1) = ks ∧ (dropR key ks vs).map (·.2) = vs := by
  have hz : (ks.zip vs).length = ks.length := by rw [List.length_zip, hl]; omega
  have hd : dropR key ks vs = ks.zip vs := by
    unfold dropR
    refine List.filter_eq_self.2 fun x hx => ?_
    obtain ⟨i, hi2, rfl⟩ := List.mem_iff_getElem.1 hx
    rw [List.getElem_zip]
    have : ¬ (ks[i]'(by omega)).toList = key.toList := fun e => by rw [isin_of key i (by omega) e] at hi; cases hi
    simp [this]
  rw [hd]
  exact ⟨List.map_fst_zip (by omega), List.map_snd_zip (by omega)⟩

end Go.Proofs.Ytpdlbebiapimoaa.PN
