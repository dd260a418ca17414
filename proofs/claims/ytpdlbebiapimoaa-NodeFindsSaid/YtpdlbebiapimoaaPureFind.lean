/- The document's Put and Drop against the program's -/
import Derived.Test.YtpdlbebiapimoaaPureC
import Derived.Test.YtpdlbebiapimoaaPurePD
import Derived.Test.YtpdlbebiapimoaaPureFindR
namespace Go.Proofs.Ytpdlbebiapimoaa.PN
open Go.RowKit Go.Proofs.YtpdlbebiapimoaaW.PrintWords Go.Proofs.YtpdlbebiapimoaaW.PrintLast Go.Proofs.YtpdlbebiapimoaaW.PrintMore
set_option linter.unusedVariables false
set_option linter.unusedSimpArgs false
theorem refPut_eq (b : Bool) (ks vs : List ByteArray) (cs : List Int) (key value : ByteArray) (hr : rising ks = true) (h1 : ks.length ≤ 100000) (h2 : vs.length ≤ 100000) (h3 : cs.length ≤ 100000) (hl : b = true → vs.length = ks.length) (hs : ∀ s ∈ ks, s.size ≤ 1000000000) :
    lunetteref05_Put.f b ks vs cs key value = node_Put.f b ks vs cs key value := by
  unfold lunetteref05_Put.f node_Put.f
  rw [if_pos (show ks.length ≤ 100000 ∧ vs.length ≤ 100000 ∧ cs.length ≤ 100000 from ⟨h1, h2, h3⟩)]
  cases b with
  | false => rfl
  | true =>
    have hl := hl rfl
    rw [if_pos rfl, if_pos rfl, if_pos ⟨⟨h1, hl⟩, hs⟩, if_pos ⟨hr, hl⟩]
    have hz : (ks.zip vs).length = ks.length := by rw [List.length_zip, hl]; omega
    have hp := putR_at hr hl key value ks.length (Nat.le_refl _)
    rw [← hz, List.take_length, hz] at hp
    have hp2 : putR key value ks vs = _ := hp
    have hbl := below_le ks key
    by_cases hb : ks.length ≤ below ks key
    · have hbe : below ks key = ks.length := by omega
      have hi := isin_end hr key hb
      rw [if_pos hb, List.take_length, ← hl, List.take_length] at hp2
      rw [hp2, hi, hbe]
      simp
      rw [← hl]; simp
    · rw [if_neg hb, List.take_length, ← hl, List.take_length] at hp2
      rw [hp2]
      simp
theorem refDrop_eq (b : Bool) (ks vs : List ByteArray) (cs : List Int) (key : ByteArray) (hr : rising ks = true) (h1 : ks.length ≤ 100000) (h2 : vs.length ≤ 100000) (h3 : cs.length ≤ 100000) (hl : b = true → vs.length = ks.length ∧ cs.length = 0) :
    lunetteref05_Drop.f b ks vs cs key = node_Drop.f b ks vs cs key := by
  unfold lunetteref05_Drop.f node_Drop.f
  rw [if_pos (show (ks.length ≤ 100000 ∧ vs.length ≤ 100000 ∧ cs.length ≤ 100000) ∧ rising ks = true from ⟨⟨h1, h2, h3⟩, hr⟩)]
  cases b with
  | false => rfl
  | true =>
    obtain ⟨hv, hc⟩ := hl rfl
    have hc : cs = [] := List.eq_nil_of_length_eq_zero hc
    subst hc
    clear hl
    have hl := hv
    rw [if_pos rfl, if_pos ⟨h1, hl⟩]
    cases hi : isin ks key with
    | true =>
      obtain ⟨e1, e2⟩ := dropR_in hr hl key hi
      rw [if_pos (by decide), if_pos hl, e1, e2]
    | false =>
      obtain ⟨e1, e2⟩ := dropR_out hr hl key hi
      rw [if_neg (by decide), e1, e2]
end Go.Proofs.Ytpdlbebiapimoaa.PN
