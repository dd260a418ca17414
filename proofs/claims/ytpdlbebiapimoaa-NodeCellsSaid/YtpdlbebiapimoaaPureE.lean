/- Plain laws: what is made of a node's cells -/
import Derived.Test.YtpdlbebiapimoaaPureA
import Derived.Lib.Strings
namespace Go.Proofs.Ytpdlbebiapimoaa.PN
open Go.RowKit Go.Proofs.YtpdlbebiapimoaaW.PrintWords Go.Proofs.YtpdlbebiapimoaaW.PrintLast Go.Proofs.YtpdlbebiapimoaaW.PrintMore
set_option linter.unusedVariables false
set_option linter.unusedSimpArgs false
theorem bt_str (l : List Int) (i : Nat) (h : i < l.length) (h0 : 0 ≤ l[i]) (h1 : l[i] < 256) : bt (strOfNums l) (i : Int) = l[i] := by
  rw [bt_lt (by rw [strOfNums_size]; exact h)]
  unfold strOfNums
  simp
  omega
theorem four_num (c : Int) (h0 : 0 ≤ c) (h1 : c ≤ 4294967295) : num4 (four c) = c := by
  unfold num4 four
  have e0 := bt_str [(c / 16777216) % 256, (c / 65536) % 256, (c / 256) % 256, c % 256] 0 (by simp) (by simp; omega) (by simp; omega)
  have e1 := bt_str [(c / 16777216) % 256, (c / 65536) % 256, (c / 256) % 256, c % 256] 1 (by simp) (by simp; omega) (by simp; omega)
  have e2 := bt_str [(c / 16777216) % 256, (c / 65536) % 256, (c / 256) % 256, c % 256] 2 (by simp) (by simp; omega) (by simp; omega)
  have e3 := bt_str [(c / 16777216) % 256, (c / 65536) % 256, (c / 256) % 256, c % 256] 3 (by simp) (by simp; omega) (by simp; omega)
  simp only [List.getElem_cons_zero, List.getElem_cons_succ] at e0 e1 e2 e3
  rw [show ((0 : Nat) : Int) = 0 from rfl] at e0
  rw [show ((1 : Nat) : Int) = 1 from rfl] at e1
  rw [show ((2 : Nat) : Int) = 2 from rfl] at e2
  rw [show ((3 : Nat) : Int) = 3 from rfl] at e3
  rw [e0, e1, e2, e3]
  omega
theorem four_size (c : Int) : (four c).size = 4 := strOfNums_size _
theorem data_append (a b : ByteArray) : (a ++ b).data.toList = a.data.toList ++ b.data.toList := by
  rw [ByteArray.data_append]; simp
theorem ext_list (s : ByteArray) (a b : Nat) : (s.extract a b).data.toList = (s.data.toList.drop a).take (b - a) := by
  rw [← toList_eq, Go.Lib.extract_toList]
theorem ba_ext2 {a b : ByteArray} (h : a.data.toList = b.data.toList) : a = b := ba_ext (by rw [toList_eq, toList_eq, h])
theorem hdr_list (s : ByteArray) : (hdr s).data.toList = [UInt8.ofNat ((s.size : Int) % 256).toNat] := rfl
section
variable (k r : ByteArray) (hk : k.size ≤ 100)
include hk
theorem cell_bt : bt (hdr k ++ k ++ r) 0 = (k.size : Int) := by
  have h := bt_lt (s := hdr k ++ k ++ r) (i := 0) (by rw [ByteArray.size_append, ByteArray.size_append, show (hdr k).size = 1 from strOfNums_size _]; omega)
  rw [show ((0 : Nat) : Int) = 0 from rfl] at h
  rw [h]
  have e : (hdr k ++ k ++ r).data.toList = UInt8.ofNat ((k.size : Int) % 256).toNat :: (k.data.toList ++ r.data.toList) := by
    rw [data_append, data_append, hdr_list]; simp
  simp only [e, List.getElem_cons_zero]
  simp
  omega
theorem cell_ok : cellOk (hdr k ++ k ++ r) = true := by
  unfold cellOk
  rw [cell_bt k r hk]
  have hs : (hdr k ++ k ++ r).size = 1 + k.size + r.size := by rw [ByteArray.size_append, ByteArray.size_append, show (hdr k).size = 1 from strOfNums_size _]
  rw [hs]
  simp
  omega
theorem cell_key : cellKey (hdr k ++ k ++ r) = k := by
  unfold cellKey
  rw [cell_bt k r hk]
  refine ba_ext2 ?_
  rw [ext_list, data_append, data_append, hdr_list]
  have : k.data.toList.length = k.size := by simp
  simp only [Int.toNat_natCast, List.cons_append, List.nil_append, List.drop_one, List.tail_cons]
  rw [show 1 + k.size - 1 = k.data.toList.length from by omega, List.take_left]
theorem cell_rest : cellRest (hdr k ++ k ++ r) = r := by
  unfold cellRest
  rw [cell_bt k r hk]
  refine ba_ext2 ?_
  rw [ext_list, data_append, data_append, hdr_list]
  have h1 : k.data.toList.length = k.size := by simp
  have h2 : r.data.toList.length = r.size := by simp
  have hs : (hdr k ++ k ++ r).size = 1 + k.size + r.size := by rw [ByteArray.size_append, ByteArray.size_append, show (hdr k).size = 1 from strOfNums_size _]
  rw [hs]
  simp only [Int.toNat_natCast, List.cons_append, List.nil_append]
  rw [show 1 + k.size = k.data.toList.length + 1 from by omega, List.drop_succ_cons, List.drop_left, List.take_of_length_le (by omega)]
end
theorem ofL_cells (b : Bool) (ks vs : List ByteArray) (cs : List Int) (h0 : chk b ks vs cs = 0) : ∀ i, i ≤ ks.length →
    ofL b ((List.range' i (ks.length - i)).map (cellN b ks vs cs)) (ks.take i) (vs.take i) (if b then [] else cs.take (i + 1)) = (b, ks, vs, cs, 0) := by
  obtain ⟨h1, h2, h3, h4⟩ := chk_zero h0
  have hks := long_false h1
  have hvs := long_false h2
  refine down (fun i hi ih => ?_) ?_
  · rw [show ks.length - i = (ks.length - (i + 1)) + 1 from by omega, List.range'_succ, List.map_cons]
    have hki : ks[i].size ≤ 100 := hks _ (List.getElem_mem _)
    have htk : ks.take i ++ [ks[i]] = ks.take (i + 1) := by rw [List.take_add_one, List.getElem?_eq_getElem hi]; rfl
    simp only [ofL]
    have hcell : cellN b ks vs cs i = hdr ks[i] ++ ks[i] ++ (if b then vs.getD i ByteArray.empty else four (cs.getD (i + 1) 0)) := by unfold cellN; rw [getD_S hi]
    rw [hcell, cell_ok _ _ hki, if_pos rfl, cell_key _ _ hki, cell_rest _ _ hki, htk]
    cases b with
    | true =>
      simp only [if_true] at h4 ih ⊢
      have hvi : i < vs.length := by omega
      have htv : vs.take i ++ [vs[i]] = vs.take (i + 1) := by rw [List.take_add_one, List.getElem?_eq_getElem hvi]; rfl
      rw [getD_S hvi, htv]
      exact ih
    | false =>
      simp only [Bool.false_eq_true, if_false] at h4 ih ⊢
      have hci : i + 1 < cs.length := by omega
      have htc : cs.take (i + 1) ++ [cs[i + 1]] = cs.take (i + 2) := by rw [List.take_add_one (i := i + 1), List.getElem?_eq_getElem hci]; rfl
      have hcb : 1 ≤ cs[i + 1] ∧ cs[i + 1] ≤ 4294967295 := by simpa using List.all_eq_true.1 h4.2.2 _ (List.getElem_mem hci)
      have hv0 : vs = [] := List.eq_nil_of_length_eq_zero h4.2.1
      rw [getD_I hci, if_pos (four_size _), four_num _ (by omega) hcb.2, htc]
      subst hv0
      rw [List.take_nil] at ih ⊢
      exact ih
  · rw [Nat.sub_self, List.take_length]
    simp only [List.range'_zero, List.map_nil, ofL]
    have e1 : vs.take ks.length = vs := by
      cases b with
      | true => simp only [if_true] at h4; rw [← h4.1, List.take_length]
      | false => simp only [Bool.false_eq_true, if_false] at h4; rw [List.eq_nil_of_length_eq_zero h4.2.1]; simp
    have e2 : (if b = true then ([] : List Int) else cs.take (ks.length + 1)) = cs := by
      cases b with
      | true => simp only [if_true] at h4 ⊢; rw [List.eq_nil_of_length_eq_zero h4.2]
      | false => simp only [Bool.false_eq_true, if_false] at h4 ⊢; rw [← h4.1, List.take_length]
    rw [e1, e2, if_pos h0]
theorem of_cells (b : Bool) (ks vs : List ByteArray) (cs : List Int) (h0 : chk b ks vs cs = 0) : ofS b (cellsN b ks vs cs) = (b, ks, vs, cs, 0) := by
  have h := ofL_cells b ks vs cs h0 0 (Nat.zero_le _)
  unfold ofS cellsN
  cases b with
  | true => simpa using h
  | false =>
    obtain ⟨_, _, _, h4⟩ := chk_zero h0
    simp only [Bool.false_eq_true, if_false] at h4 h ⊢
    have hc0 : 0 < cs.length := by omega
    have hcb : 1 ≤ cs[0] ∧ cs[0] ≤ 4294967295 := by simpa using List.all_eq_true.1 h4.2.2 _ (List.getElem_mem hc0)
    rw [List.singleton_append]
    show (if (four (cs.getD 0 0)).size = 4 then _ else _) = _
    rw [if_pos (four_size _), getD_I hc0, four_num _ (by omega) hcb.2]
    have e : cs.take (0 + 1) = [cs[0]] := by rw [List.take_add_one, List.getElem?_eq_getElem hc0]; rfl
    rw [e] at h
    simpa using h
theorem cellN_size (b : Bool) (ks vs : List ByteArray) (cs : List Int) (hs : ∀ s ∈ ks, s.size ≤ 300) (hs2 : ∀ s ∈ vs, s.size ≤ 300) : ∀ c ∈ cellsN b ks vs cs, c.size ≤ 100000 := by
  have g : ∀ (l : List ByteArray), (∀ s ∈ l, s.size ≤ 300) → ∀ i, (l.getD i ByteArray.empty).size ≤ 300 := by
    intro l hl i
    by_cases h : i < l.length
    · rw [getD_S h]; exact hl _ (List.getElem_mem _)
    · have : l.getD i ByteArray.empty = ByteArray.empty := by simp [h]
      rw [this]; decide
  intro c hc
  unfold cellsN at hc
  rw [List.mem_append] at hc
  rcases hc with hc | hc
  · cases b with
    | true => simp at hc
    | false => simp at hc; rw [hc, four_size]; omega
  · obtain ⟨i, _, rfl⟩ := List.mem_map.1 hc
    unfold cellN
    rw [ByteArray.size_append, ByteArray.size_append, show (hdr (ks.getD i ByteArray.empty)).size = 1 from strOfNums_size _]
    have h1 := g ks hs i
    cases b with
    | true => have h2 := g vs hs2 i; simp only [if_true]; omega
    | false => simp only [Bool.false_eq_true, if_false]; rw [four_size]; omega
theorem cellsN_length (b : Bool) (ks vs : List ByteArray) (cs : List Int) : (cellsN b ks vs cs).length ≤ ks.length + 1 := by
  unfold cellsN
  cases b <;> simp

end Go.Proofs.Ytpdlbebiapimoaa.PN
