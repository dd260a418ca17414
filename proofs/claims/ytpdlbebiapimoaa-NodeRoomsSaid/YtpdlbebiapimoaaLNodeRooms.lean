/- Plain law: NodeRooms -/
import Derived.Test.YtpdlbebiapimoaaPureB
import Derived.Test.YtpdlbebiapimoaaPureE
import Derived.Test.YtpdlbebiapimoaaPN21
namespace Go.Proofs.Ytpdlbebiapimoaa.PN
open Go.RowKit Go.Proofs.YtpdlbebiapimoaaW.PrintWords Go.Proofs.YtpdlbebiapimoaaW.PrintLast Go.Proofs.YtpdlbebiapimoaaW.PrintMore
set_option linter.unusedVariables false
set_option linter.unusedSimpArgs false
def sz (l : List ByteArray) : Nat := (l.map (·.size)).sum
theorem sz_le (l : List ByteArray) (h : ∀ s ∈ l, s.size ≤ 100000) : sz l ≤ 100000 * l.length := by
  unfold sz
  induction l with
  | nil => simp
  | cons a r ih =>
    have h1 := h a (by simp)
    have h2 := ih (fun s hs => h s (List.mem_cons_of_mem _ hs))
    simp only [List.map_cons, List.sum_cons, List.length_cons]
    omega
theorem roomK_eq (l : List ByteArray) (h : ∀ s ∈ l, s.size ≤ 100000) (x : Int) (h0 : 0 ≤ x) (h1 : x + 100003 * (l.length : Int) ≤ 1000000000000) : roomK x l = x + 3 * (l.length : Int) + (sz l : Int) := by
  induction l generalizing x with
  | nil => simp [roomK, sz]
  | cons a r ih =>
    have ha := h a (by simp)
    simp only [List.length_cons] at h1
    unfold roomK
    rw [List.foldl_cons]
    have e : wrap64 (x + wrap64 (3 + (a.size : Int))) = x + (3 + (a.size : Int)) := by unfold wrap64; omega
    rw [e]
    have := ih (fun s hs => h s (List.mem_cons_of_mem _ hs)) (x + (3 + (a.size : Int))) (by omega) (by push_cast at h1; omega)
    unfold roomK at this
    rw [this]
    simp only [List.length_cons, sz, List.map_cons, List.sum_cons]
    push_cast
    omega
theorem roomV_eq (l : List ByteArray) (h : ∀ s ∈ l, s.size ≤ 100000) (x : Int) (h0 : 0 ≤ x) (h1 : x + 100003 * (l.length : Int) ≤ 2000000000000) : roomV x l = x + (sz l : Int) := by
  induction l generalizing x with
  | nil => simp [roomV, sz]
  | cons a r ih =>
    have ha := h a (by simp)
    simp only [List.length_cons] at h1
    unfold roomV
    rw [List.foldl_cons]
    have e : wrap64 (x + (a.size : Int)) = x + (a.size : Int) := by unfold wrap64; omega
    rw [e]
    have := ih (fun s hs => h s (List.mem_cons_of_mem _ hs)) (x + (a.size : Int)) (by omega) (by push_cast at h1; omega)
    unfold roomV at this
    rw [this]
    simp only [sz, List.map_cons, List.sum_cons]
    push_cast
    omega
theorem sz_drop {l : List ByteArray} {i : Nat} (h : i < l.length) : sz (l.drop i) = l[i].size + sz (l.drop (i + 1)) := by
  rw [List.drop_eq_getElem_cons h]; unfold sz; rw [List.map_cons, List.sum_cons]
theorem sz_append (a b : List ByteArray) : sz (a ++ b) = sz a + sz b := by unfold sz; simp
theorem sz_cells (b : Bool) (ks vs : List ByteArray) (cs : List Int) (hv : b = true → vs.length = ks.length) (hv0 : b = false → vs = []) :
    ∀ i, i ≤ ks.length → sz ((List.range' i (ks.length - i)).map (cellN b ks vs cs)) = (ks.length - i) * (if b then 1 else 5) + sz (ks.drop i) + sz (vs.drop i) := by
  refine down (fun i hi ih => ?_) ?_
  · rw [show ks.length - i = (ks.length - (i + 1)) + 1 from by omega, List.range'_succ, List.map_cons]
    have e1 : sz (cellN b ks vs cs i :: (List.range' (i + 1) (ks.length - (i + 1))).map (cellN b ks vs cs)) = (cellN b ks vs cs i).size + sz ((List.range' (i + 1) (ks.length - (i + 1))).map (cellN b ks vs cs)) := by unfold sz; simp
    rw [e1, ih]
    have e2 := sz_drop hi
    have e3 : (cellN b ks vs cs i).size = 1 + ks[i].size + (if b then (vs.getD i ByteArray.empty).size else 4) := by
      unfold cellN
      rw [getD_S hi, ByteArray.size_append, ByteArray.size_append, show (hdr ks[i]).size = 1 from strOfNums_size _]
      cases b <;> simp [four_size]
    rw [e2, e3]
    cases b with
    | true =>
      have hvi : i < vs.length := by rw [hv rfl]; exact hi
      have e4 := sz_drop hvi
      rw [e4, getD_S hvi]
      simp only [if_true]
      omega
    | false =>
      rw [hv0 rfl]
      simp only [Bool.false_eq_true, if_false, List.drop_nil]
      omega
  · rw [Nat.sub_self, List.drop_length]
    cases b with
    | true => rw [← hv rfl, List.drop_length]; simp [sz]
    | false => rw [hv0 rfl]; simp [sz]
theorem NodeRooms_pure (b : Bool) (ks vs : List ByteArray) (cs : List Int) : ∃ k, lunettelaw05_NodeRooms.f k b ks vs cs = some true := by
  refine Ev.rounds ?_
  unfold lunettelaw05_NodeRooms.f
  refine Ev.bind awake_ev ?_
  simp only [if_true]
  refine Ev.bind (few_ev b ks vs cs) ?_
  cases hf : fewS ks vs cs with
  | false =>
    refine Ev.step (f := fun k => (lunettelaw05_awake.f k).bind fun t => some t) (fun k => by simp only [lunettelaw05_NodeRooms.j0]; rw [if_pos (by decide)]) (Ev.bind (f := fun _ t => some t) awake_ev (Ev.now _))
  | true =>
    obtain ⟨h1, h2, h3, h4, h5⟩ := fewS_true hf
    have b4 : ∀ s ∈ ks, s.size ≤ 100000 := fun s hs => by have := h4 s hs; omega
    have b5 : ∀ s ∈ vs, s.size ≤ 100000 := fun s hs => by have := h5 s hs; omega
    have c1 := nodeCells_ev b ks vs cs (by omega) (by omega) (by omega) b4 b5
    have c3 := nodeRoom_ev b ks vs cs (by omega) (by omega)
    refine Ev.step (f := fun k => (node_Cells.f k b ks vs cs).bind fun bt302 => (if bt302.2 = 0 then (lunettelaw05_NodeRooms.l0 k bt302.1 (wrap64 (2 * (bt302.1.length : Int))) 0 b ks vs cs) else (some ((bt302.1.length : Int) == 0)))) (fun k => by simp only [lunettelaw05_NodeRooms.j0]; rw [if_neg (by decide)]) (Ev.bind c1 ?_)
    by_cases h0 : chk b ks vs cs = 0
    · rw [if_pos h0]
      simp only [if_true]
      have hl : ∀ (l : List ByteArray), l.length ≤ 1000 → ∀ i, i ≤ l.length → ∀ x, Ev (fun k => lunettelaw05_NodeRooms.l0 k l x (i : Int) b ks vs cs) (roomS b ks vs cs == roomV x (l.drop i)) := by
        intro l hll
        refine down (fun i hi ih x => ?_) (fun x => ?_)
        · refine Ev.step (f := fun k => lunettelaw05_NodeRooms.l0 k l (wrap64 (x + (l[i].size : Int))) ((i + 1 : Nat) : Int) b ks vs cs) (fun k => ?_) (ev_eq (ih _) ?_)
          · simp only [lunettelaw05_NodeRooms.l0]
            rw [if_pos (by omega), if_pos (by omega), rdS_at hi, w1 (by omega)]
          · rw [List.drop_eq_getElem_cons hi]
            rfl
        · refine Ev.step (f := fun k => (node_Room.f k b ks vs cs).bind fun t => some (t == x)) (fun k => ?_) (Ev.bind (f := fun _ t => some (t == x)) c3 (ev_some ?_))
          · simp only [lunettelaw05_NodeRooms.l0]
            rw [if_neg (by omega)]
          · rw [List.drop_length]; rfl
      have hcl := cellsN_length b ks vs cs
      refine ev_eq (hl (cellsN b ks vs cs) (by omega) 0 (Nat.zero_le _) _) ?_
      obtain ⟨_, _, _, g⟩ := chk_zero h0
      have hk1 := sz_le ks b4
      have hv1 := sz_le vs b5
      have e1 := roomK_eq ks b4 0 (by omega) (by omega)
      have e2 := roomV_eq vs b5 (roomK 0 ks) (by rw [e1]; omega) (by rw [e1]; omega)
      have hcs := cellN_size b ks vs cs h4 h5
      have hlen : (cellsN b ks vs cs).length = ks.length + (if b then 0 else 1) := by unfold cellsN; cases b <;> simp
      have ew : wrap64 (2 * ((cellsN b ks vs cs).length : Int)) = 2 * ((cellsN b ks vs cs).length : Int) := w0 (by omega) (by omega)
      have e3 := roomV_eq (cellsN b ks vs cs) hcs (2 * ((cellsN b ks vs cs).length : Int)) (by omega) (by omega)
      rw [List.drop_zero, ew, e3, beq_iff_eq]
      unfold roomS
      rw [e2, e1, hlen]
      have hs : sz (cellsN b ks vs cs) = (if b then 0 else 4) + (ks.length * (if b then 1 else 5) + sz ks + sz vs) := by
        unfold cellsN
        rw [sz_append]
        have := sz_cells b ks vs cs (fun hb => by subst hb; simp only [if_true] at g; exact g.1) (fun hb => by subst hb; simp only [Bool.false_eq_true, if_false] at g; exact List.eq_nil_of_length_eq_zero g.2.1) 0 (Nat.zero_le _)
        rw [Nat.sub_zero, List.drop_zero, List.drop_zero] at this
        rw [this]
        cases b with
        | true => simp [sz]
        | false => simp [sz, four_size]
      rw [hs]
      cases b with
      | true =>
        simp only [if_true] at g ⊢
        rw [w0 (x := 4 * (cs.length : Int)) (by omega) (by omega), w0 (by omega) (by omega)]
        push_cast
        omega
      | false =>
        simp only [Bool.false_eq_true, if_false] at g ⊢
        rw [w0 (x := 4 * (cs.length : Int)) (by omega) (by omega), w0 (x := 0 + 3 * (ks.length : Int) + (sz ks : Int) + (sz vs : Int) + 2) (by omega) (by omega), w0 (by omega) (by omega)]
        have : vs = [] := List.eq_nil_of_length_eq_zero g.2.1
        subst this
        simp only [sz, List.map_nil, List.sum_nil] at *
        push_cast
        omega
    · rw [if_neg h0]
      simp only [if_neg h0]
      exact ev_some rfl

end Go.Proofs.Ytpdlbebiapimoaa.PN
