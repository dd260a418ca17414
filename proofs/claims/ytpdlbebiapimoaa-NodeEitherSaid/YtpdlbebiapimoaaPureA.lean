/- Plain laws: a node's cells, what is made of cells, sameness, and the chapter's example -/
import Derived.Test.YtpdlbebiapimoaaHKit
import Derived.Test.YtpdlbebiapimoaaHOrd
import Derived.Test.YtpdlbebiapimoaaHFind
import Derived.Test.YtpdlbebiapimoaaPN4
import Derived.Test.YtpdlbebiapimoaaPN5
import Derived.Test.YtpdlbebiapimoaaPN7
import Derived.Test.YtpdlbebiapimoaaPN8
import Derived.Test.YtpdlbebiapimoaaPN9
import Derived.Test.YtpdlbebiapimoaaPN11
namespace Go.Proofs.Ytpdlbebiapimoaa.PN
open Go.RowKit Go.Proofs.YtpdlbebiapimoaaW.PrintWords Go.Proofs.YtpdlbebiapimoaaW.PrintLast Go.Proofs.YtpdlbebiapimoaaW.PrintMore
set_option linter.unusedVariables false
set_option linter.unusedSimpArgs false
theorem down {P : Nat → Prop} {n : Nat} (hs : ∀ i, i < n → P (i + 1) → P i) (he : P n) : ∀ i, i ≤ n → P i := by
  intro i hi
  obtain ⟨d, rfl⟩ : ∃ d, n = i + d := ⟨n - i, by omega⟩
  induction d generalizing i with
  | zero => exact he
  | succ d ih => exact hs i (by omega) (ih (i + 1) (fun j hj => hs j (by omega)) (by rwa [show i + 1 + d = i + (d + 1) from by omega]) (by omega))
theorem w1 {i : Nat} (h : i ≤ 1000000000) : wrap64 ((i : Int) + 1) = ((i + 1 : Nat) : Int) := by unfold wrap64; omega
theorem w0 {x : Int} (h0 : -9223372036854775808 ≤ x) (h : x < 9223372036854775808) : wrap64 x = x := by unfold wrap64; omega
theorem rdS_at {l : List ByteArray} {i : Nat} (h : i < l.length) : rdOf ByteArray.empty l (i : Int) = l[i] := by simp [rdOf, h]
theorem rd_at {l : List Int} {i : Nat} (h : i < l.length) : rd l (i : Int) = l[i] := by simp [rd, h]
theorem ev_if {α : Type} {c : Prop} [Decidable c] {f g : Nat → Option α} {r : α} (h : c → Ev f r) (h2 : ¬ c → Ev g r) : Ev (fun k => if c then f k else g k) r := by
  by_cases hc : c
  · exact Ev.congr (fun k => if_pos hc) (h hc)
  · exact Ev.congr (fun k => if_neg hc) (h2 hc)
theorem ev_some {α : Type} {a r : α} (h : a = r) : Ev (fun _ => some a) r := by subst h; exact Ev.now _
theorem ev_eq {α : Type} {g : Nat → Option α} {a r : α} (h : Ev g a) (e : a = r) : Ev g r := by subst e; exact h
/-- Below -/
theorem bt_lt {s : ByteArray} {i : Nat} (h : i < s.size) : bt s (i : Int) = ((s.data.toList[i]'(by simpa using h)).toNat : Int) := by
  unfold bt
  rw [dif_pos (by simpa using h)]
  simp
  rfl
theorem toList_eq (s : ByteArray) : s.toList = s.data.toList := ByteArray.toList_eq s
theorem size_len (s : ByteArray) : s.size = s.data.toList.length := by simp
/-- a key's head: a byte that tells how long it is -/
def hdr (s : ByteArray) : ByteArray := strOfNums [(s.size : Int) % 256]
def four (n : Int) : ByteArray := strOfNums [(n / 16777216) % 256, (n / 65536) % 256, (n / 256) % 256, n % 256]
def cellN (b : Bool) (ks vs : List ByteArray) (cs : List Int) (i : Nat) : ByteArray := hdr (ks.getD i ByteArray.empty) ++ ks.getD i ByteArray.empty ++ (if b then vs.getD i ByteArray.empty else four (cs.getD (i + 1) 0))
def cellsN (b : Bool) (ks vs : List ByteArray) (cs : List Int) : List ByteArray := (if b then [] else [four (cs.getD 0 0)]) ++ (List.range' 0 ks.length).map (cellN b ks vs cs)
theorem strOfNums_size (l : List Int) : (strOfNums l).size = l.length := by
  unfold strOfNums
  show (List.map (fun n : Int => UInt8.ofNat n.toNat) l).toArray.size = _
  simp
theorem chk_zero {b : Bool} {ks vs : List ByteArray} {cs : List Int} (h : chk b ks vs cs = 0) :
    long 100 ks = false ∧ long 100 vs = false ∧ rising ks = true ∧ (if b then vs.length = ks.length ∧ cs.length = 0 else cs.length = ks.length + 1 ∧ vs.length = 0 ∧ cs.all (fun k => decide (1 ≤ k ∧ k ≤ 4294967295)) = true) := by
  unfold chk at h
  cases h1 : long 100 ks with
  | true => rw [h1] at h; simp at h
  | false =>
    cases h2 : long 100 vs with
    | true => rw [h1, h2] at h; simp at h
    | false =>
      cases h3 : rising ks with
      | false => rw [h1, h2, h3] at h; simp at h
      | true =>
        rw [h1, h2, h3] at h
        refine ⟨rfl, rfl, rfl, ?_⟩
        cases b with
        | true =>
          simp only [Bool.or_self, Bool.false_eq_true, if_false, Bool.not_true, if_true] at h ⊢
          by_cases hc : vs.length = ks.length ∧ cs.length = 0
          · exact hc
          · rw [if_neg hc] at h; cases h
        | false =>
          simp only [Bool.or_self, Bool.false_eq_true, if_false, Bool.not_true] at h ⊢
          by_cases hc : cs.length = ks.length + 1 ∧ vs.length = 0 ∧ cs.all (fun k => decide (1 ≤ k ∧ k ≤ 4294967295)) = true
          · exact hc
          · rw [if_neg hc] at h; cases h
theorem chk_mk {b : Bool} {ks vs : List ByteArray} {cs : List Int} (h1 : long 100 ks = false) (h2 : long 100 vs = false) (h3 : rising ks = true) (h4 : if b then vs.length = ks.length ∧ cs.length = 0 else cs.length = ks.length + 1 ∧ vs.length = 0 ∧ cs.all (fun k => decide (1 ≤ k ∧ k ≤ 4294967295)) = true) : chk b ks vs cs = 0 := by
  unfold chk
  rw [h1, h2, h3]
  cases b with
  | true =>
    simp only [if_true] at h4
    simp only [Bool.or_self, Bool.false_eq_true, if_false, Bool.not_true, if_true]
    rw [if_pos h4]
  | false =>
    simp only [Bool.false_eq_true, if_false] at h4
    simp only [Bool.or_self, Bool.false_eq_true, if_false, Bool.not_true]
    rw [if_pos h4]
theorem long_false {m : Nat} {l : List ByteArray} (h : long (m : Int) l = false) : ∀ s ∈ l, s.size ≤ m := by
  intro s hs
  unfold long at h
  have := List.any_eq_false.1 h s hs
  simp at this
  omega
theorem long_mk {m : Nat} {l : List ByteArray} (h : ∀ s ∈ l, s.size ≤ m) : long (m : Int) l = false := by
  unfold long
  rw [List.any_eq_false]
  intro s hs
  have := h s hs
  simp
  omega
theorem range_step {α : Type} (f : Nat → α) (x : List α) {i n : Nat} (h : i < n) : x ++ [f i] ++ (List.range' (i + 1) (n - (i + 1))).map f = x ++ (List.range' i (n - i)).map f := by
  rw [show n - i = (n - (i + 1)) + 1 from by omega, List.range'_succ, List.map_cons, List.append_assoc]
  rfl
theorem getD_S {l : List ByteArray} {i : Nat} (h : i < l.length) : l.getD i ByteArray.empty = l[i] := by simp [h]
theorem getD_I {l : List Int} {i : Nat} (h : i < l.length) : l.getD i 0 = l[i] := by simp [h]
theorem nodeCells_l0 (ks vs : List ByteArray) (cs : List Int) (hk : ks.length ≤ 100000) (hs : ∀ s ∈ ks, s.size ≤ 100000) (hs2 : ∀ s ∈ vs, s.size ≤ 100000) (hv : vs.length = ks.length) :
    ∀ i, i ≤ ks.length → ∀ x : List ByteArray, x.length ≤ i + 1 → Ev (fun k => node_Cells.l0 k x ks (ks.length : Int) (i : Int) true ks vs cs) (x ++ (List.range' i (ks.length - i)).map (cellN true ks vs cs), 0) := by
  refine down (fun i hi ih x hx => ?_) (fun x hx => ?_)
  · have hh : (strOfNums [((ks[i].size : Int)) % 256]).size = 1 := strOfNums_size _
    have hsi := hs ks[i] (List.getElem_mem _)
    rw [← range_step _ x hi]
    have hvi : i < vs.length := by rw [hv]; exact hi
    have hs2i := hs2 vs[i] (List.getElem_mem _)
    refine Ev.step (f := fun k => node_Cells.l0 k (x ++ [cellN true ks vs cs i]) ks (ks.length : Int) ((i + 1 : Nat) : Int) true ks vs cs) (fun k => ?_) (ih _ (by simp; omega))
    simp only [node_Cells.l0]
    rw [if_pos (by omega), if_pos (by omega), if_pos (by omega), rdS_at hi]
    simp only [Option.bind_some]
    rw [if_pos (by omega), if_pos trivial, if_pos (by omega), rdS_at hvi, if_pos (by rw [ByteArray.size_append]; omega), if_pos (by omega), w1 (by omega)]
    unfold cellN hdr
    rw [getD_S hi, getD_S hvi]
    rfl
  · refine Ev.step (f := fun k => some (x, 0)) (fun k => ?_) (ev_some (by simp))
    simp only [node_Cells.l0]
    rw [if_neg (by omega)]
theorem nodeCells_ev (ks vs : List ByteArray) (cs : List Int) (hk : ks.length ≤ 100000) (hv : vs.length ≤ 100000) (hc : cs.length ≤ 100000) (hs : ∀ s ∈ ks, s.size ≤ 100000) (hs2 : ∀ s ∈ vs, s.size ≤ 100000) (h0 : chk true ks vs cs = 0) :
    Ev (fun k => node_Cells.f k true ks vs cs) (cellsN true ks vs cs, 0) := by
  unfold node_Cells.f node_Check.f
  rw [if_pos ⟨hk, hv, hc⟩, h0]
  simp only [Option.bind_some, if_true]
  have h := (chk_zero h0).2.2.2
  simp only [if_true] at h
  refine Ev.step (f := fun k => node_Cells.l0 k [] ks (ks.length : Int) ((0 : Nat) : Int) true ks vs cs) (fun k => by simp only [node_Cells.j0]; rfl) (ev_eq (nodeCells_l0 ks vs cs hk hs hs2 h.1 0 (Nat.zero_le _) [] (by simp)) ?_)
  unfold cellsN
  simp
/-- Room: what both compute, wraps and all -/
def roomK (x : Int) (l : List ByteArray) : Int := l.foldl (fun x s => wrap64 (x + wrap64 (3 + (s.size : Int)))) x
def roomV (x : Int) (l : List ByteArray) : Int := l.foldl (fun x s => wrap64 (x + (s.size : Int))) x
def roomS (b : Bool) (ks vs : List ByteArray) (cs : List Int) : Int :=
  if b then wrap64 (roomV (roomK 0 ks) vs + wrap64 (4 * (cs.length : Int))) else wrap64 (wrap64 (roomV (roomK 0 ks) vs + 2) + wrap64 (4 * (cs.length : Int)))
theorem nodeRoom_ev (b : Bool) (ks vs : List ByteArray) (cs : List Int) (hk : ks.length ≤ 100000) (hv : vs.length ≤ 100000) : Ev (fun k => node_Room.f k b ks vs cs) (roomS b ks vs cs) := by
  have h1 : ∀ i, i ≤ vs.length → ∀ x, Ev (fun k => node_Room.l1 k x vs (vs.length : Int) (i : Int) b ks vs cs) (if b then wrap64 (roomV x (vs.drop i) + wrap64 (4 * (cs.length : Int))) else wrap64 (wrap64 (roomV x (vs.drop i) + 2) + wrap64 (4 * (cs.length : Int)))) := by
    refine down (fun i hi ih x => ?_) (fun x => ?_)
    · refine Ev.step (f := fun k => node_Room.l1 k (wrap64 (x + (vs[i].size : Int))) vs (vs.length : Int) ((i + 1 : Nat) : Int) b ks vs cs) (fun k => ?_) (ev_eq (ih _) ?_)
      · simp only [node_Room.l1]
        rw [if_pos (by omega), if_pos (by omega), if_pos (by omega), rdS_at hi, w1 (by omega)]
      · rw [List.drop_eq_getElem_cons hi]
        rfl
    · refine Ev.step (f := fun k => if b = true then some (wrap64 (x + wrap64 (4 * (cs.length : Int)))) else some (wrap64 (wrap64 (x + 2) + wrap64 (4 * (cs.length : Int))))) (fun k => ?_) (ev_if (fun h => ev_some ?_) (fun h => ev_some ?_))
      · simp only [node_Room.l1]
        rw [if_neg (by omega)]
      · rw [if_pos h, List.drop_length]; rfl
      · rw [if_neg h, List.drop_length]; rfl
  have h0 : ∀ i, i ≤ ks.length → ∀ x, Ev (fun k => node_Room.l0 k x ks (ks.length : Int) (i : Int) b ks vs cs) (if b then wrap64 (roomV (roomK x (ks.drop i)) vs + wrap64 (4 * (cs.length : Int))) else wrap64 (wrap64 (roomV (roomK x (ks.drop i)) vs + 2) + wrap64 (4 * (cs.length : Int)))) := by
    refine down (fun i hi ih x => ?_) (fun x => ?_)
    · refine Ev.step (f := fun k => node_Room.l0 k (wrap64 (x + wrap64 (3 + (ks[i].size : Int)))) ks (ks.length : Int) ((i + 1 : Nat) : Int) b ks vs cs) (fun k => ?_) (ev_eq (ih _) ?_)
      · simp only [node_Room.l0]
        rw [if_pos (by omega), if_pos (by omega), if_pos (by omega), rdS_at hi, w1 (by omega)]
      · rw [List.drop_eq_getElem_cons hi]
        rfl
    · refine Ev.step (f := fun k => node_Room.l1 k x vs (vs.length : Int) ((0 : Nat) : Int) b ks vs cs) (fun k => ?_) (ev_eq (h1 0 (Nat.zero_le _) x) ?_)
      · simp only [node_Room.l0]
        rw [if_neg (by omega)]
        rfl
      · rw [List.drop_length, List.drop_zero]; rfl
  exact h0 0 (Nat.zero_le _) 0
/-- Same -/
theorem ba_ext {a b : ByteArray} (h : a.toList = b.toList) : a = b := by
  rw [toList_eq, toList_eq] at h
  cases a with
  | mk a => cases b with
    | mk b => have : a = b := Array.toList_inj.1 h; rw [this]
theorem ba_eq {a b : ByteArray} : a.toList = b.toList ↔ a = b := ⟨ba_ext, fun h => by rw [h]⟩
theorem drop_iff {α : Type} {a b : List α} {i : Nat} (h1 : i < a.length) (h2 : i < b.length) : a.drop i = b.drop i ↔ a[i] = b[i] ∧ a.drop (i + 1) = b.drop (i + 1) := by
  rw [List.drop_eq_getElem_cons h1, List.drop_eq_getElem_cons h2, List.cons.injEq]
theorem Same01_ev (a b : List ByteArray) (ha : a.length ≤ 1000000) : Ev (fun k => lunetteref01_Same.f k a b) (decide (a = b)) := by
  unfold lunetteref01_Same.f
  refine ev_if (fun hl => ?_) (fun hl => ev_some ?_)
  · have hl : a.length = b.length := by omega
    have h0 : ∀ i, i ≤ a.length → Ev (fun k => lunetteref01_Same.l0 k a b (i : Int)) (decide (a.drop i = b.drop i)) := by
      refine down (fun i hi ih => ?_) ?_
      · have hi2 : i < b.length := by omega
        refine Ev.step (f := fun k => if (a[i]).toList = (b[i]).toList then lunetteref01_Same.l0 k a b ((i + 1 : Nat) : Int) else some false) (fun k => ?_) (ev_if (fun h => ev_eq ih ?_) (fun h => ev_some ?_))
        · simp only [lunetteref01_Same.l0]
          rw [if_pos (by omega), if_pos (by omega), if_pos (by omega), rdS_at hi, rdS_at hi2, w1 (by omega)]
        · rw [decide_eq_decide, drop_iff hi hi2]
          exact ⟨fun e => ⟨ba_ext h, e⟩, fun e => e.2⟩
        · rw [eq_comm, decide_eq_false_iff_not, drop_iff hi hi2]
          exact fun e => h (by rw [e.1])
      · refine Ev.step (f := fun k => some true) (fun k => ?_) (ev_some ?_)
        · simp only [lunetteref01_Same.l0]
          rw [if_neg (by omega)]
        · rw [List.drop_length, hl, List.drop_length]; simp
    exact ev_eq (h0 0 (Nat.zero_le _)) (by simp)
  · have : a ≠ b := fun e => hl (by rw [e])
    simp [this]
theorem Same05_ev (b : Bool) (ks vs : List ByteArray) (cs : List Int) (b' : Bool) (ks' vs' : List ByteArray) (cs' : List Int) (hk : ks.length ≤ 1000000) (hv : vs.length ≤ 1000000) (hc : cs.length ≤ 1000000) :
    Ev (fun k => lunetteref05_Same.f k b ks vs cs b' ks' vs' cs') (decide (b = b') && (decide (cs = cs') && (decide (ks = ks') && decide (vs = vs')))) := by
  have hend : Ev (fun k => ((lunetteref01_Same.f k ks ks').bind fun t => (if t = true then ((lunetteref01_Same.f k vs vs').bind fun t2 => (some t2)) else (some false)))) (decide (ks = ks') && decide (vs = vs')) := by
    refine Ev.bind (f := fun k t => if t = true then ((lunetteref01_Same.f k vs vs').bind fun t2 => (some t2)) else (some false)) (Same01_ev ks ks' hk) ?_
    refine ev_if (fun h => ?_) (fun h => ev_some ?_)
    · rw [h, Bool.true_and]
      exact Ev.bind (f := fun _ t => some t) (Same01_ev vs vs' hv) (Ev.now _)
    · rw [Bool.eq_false_iff.2 h]; rfl
  have hl : cs.length = cs'.length → ∀ i, i ≤ cs.length → Ev (fun k => lunetteref05_Same.l0 k (i : Int) b ks vs cs b' ks' vs' cs') (decide (cs.drop i = cs'.drop i) && (decide (ks = ks') && decide (vs = vs'))) := by
    intro hl
    refine down (fun i hi ih => ?_) ?_
    · have hi2 : i < cs'.length := by omega
      refine Ev.step (f := fun k => if (cs[i]) = (cs'[i]) then lunetteref05_Same.l0 k ((i + 1 : Nat) : Int) b ks vs cs b' ks' vs' cs' else some false) (fun k => ?_) (ev_if (fun h => ev_eq ih ?_) (fun h => ev_some ?_))
      · simp only [lunetteref05_Same.l0]
        rw [if_pos (by omega), if_pos (by omega), if_pos (by omega), rd_at hi, rd_at hi2, w1 (by omega)]
      · congr 1
        rw [decide_eq_decide, drop_iff hi hi2]
        exact ⟨fun e => ⟨h, e⟩, fun e => e.2⟩
      · have : decide (cs.drop i = cs'.drop i) = false := by rw [decide_eq_false_iff_not, drop_iff hi hi2]; exact fun e => h e.1
        rw [this]; rfl
    · refine Ev.step (f := fun k => ((lunetteref01_Same.f k ks ks').bind fun t => (if t = true then ((lunetteref01_Same.f k vs vs').bind fun t2 => (some t2)) else (some false)))) (fun k => ?_) (ev_eq hend ?_)
      · simp only [lunetteref05_Same.l0]
        rw [if_neg (by omega)]
      · rw [List.drop_length, hl, List.drop_length]; simp
  unfold lunetteref05_Same.f
  by_cases hb : b = b'
  · refine Ev.congr (f := fun k => lunetteref05_Same.j0 k ((cs.length : Int) != (cs'.length : Int)) b ks vs cs b' ks' vs' cs') (fun k => by rw [if_neg (by simp [hb])]) ?_
    by_cases hc : cs.length = cs'.length
    · have e : ((cs.length : Int) != (cs'.length : Int)) = false := bne_eq_false_iff_eq.2 (by omega)
      rw [e]
      refine Ev.step (f := fun k => lunetteref05_Same.l0 k ((0 : Nat) : Int) b ks vs cs b' ks' vs' cs') (fun k => by simp only [lunetteref05_Same.j0]; rw [if_neg (by decide)]; rfl) (ev_eq (hl hc 0 (Nat.zero_le _)) ?_)
      rw [List.drop_zero, List.drop_zero, decide_eq_true hb, Bool.true_and]
    · have e : ((cs.length : Int) != (cs'.length : Int)) = true := bne_iff_ne.2 (by omega)
      rw [e]
      refine Ev.step (f := fun k => some false) (fun k => by simp only [lunetteref05_Same.j0]; rw [if_pos trivial]) (ev_some ?_)
      have : cs ≠ cs' := fun e => hc (by rw [e])
      simp [this]
  · refine Ev.congr (f := fun k => lunetteref05_Same.j0 k true b ks vs cs b' ks' vs' cs') (fun k => by rw [if_pos (by simp [hb])]) ?_
    refine Ev.step (f := fun k => some false) (fun k => by simp only [lunetteref05_Same.j0]; rw [if_pos trivial]) (ev_some ?_)
    simp [hb]
/-- number -/
theorem of_leaf (l : List ByteArray) (hl : l.length ≤ 10000) (hok : ∀ c ∈ l, cellOk c = true) : ∀ i, i ≤ l.length → ∀ (K V : List ByteArray), K.length ≤ 10000 + i → V.length ≤ 10000 + i → chk true (K ++ (l.drop i).map cellKey) (V ++ (l.drop i).map cellRest) [] = 0 →
    Ev (fun k => node_Of.l0 k true l (l.length : Int) (i : Int) true K V []) (true, K ++ (l.drop i).map cellKey, V ++ (l.drop i).map cellRest, [], 0) := by
  refine down (fun i hi ih K V hK hV h0 => ?_) (fun K V hK hV h0 => ?_)
  · have hoki := hok l[i] (List.getElem_mem _)
    rw [List.drop_eq_getElem_cons hi] at h0 ⊢
    have hb := bt_range l[i] 0
    generalize hc : l[i] = c at *
    have hrd : rdOf ByteArray.empty l (i : Int) = c := by rw [rdS_at hi, hc]
    have e1 : wrap64 (bt c 0) = bt c 0 := w0 (by omega) (by omega)
    have e2 : wrap64 (1 + bt c 0) = 1 + bt c 0 := w0 (by omega) (by omega)
    have e3 : ((1 + bt c 0 : Int)).toNat = 1 + (bt c 0).toNat := by omega
    have hok2 := hoki
    unfold cellOk at hok2
    simp only [Bool.and_eq_true, Bool.or_eq_true, decide_eq_true_eq] at hok2
    have hj : Ev (fun k => node_Of.j2 k true c l (l.length : Int) (i : Int) false true K V []) (true, K ++ (c :: l.drop (i + 1)).map cellKey, V ++ (c :: l.drop (i + 1)).map cellRest, [], 0) := by
      refine Ev.step (f := fun k => node_Of.l0 k true l (l.length : Int) ((i + 1 : Nat) : Int) true (K ++ [cellKey c]) (V ++ [cellRest c]) []) (fun k => ?_) (ev_eq (ih _ _ (by simp; omega) (by simp; omega) (by simpa using h0)) (by simp))
      simp only [node_Of.j2]
      rw [if_neg (by decide), if_pos (by omega), e1, e2, if_pos (by omega), if_pos (by omega), if_pos (by omega), if_pos (by omega), if_pos trivial, if_pos (by omega), w1 (by omega), e3]
      rfl
    have hE : ¬ c.toList = [] := fun h => by
      rw [toList_eq] at h
      have := congrArg List.length h
      have h3 : c.size = 0 := by simpa using this
      omega
    by_cases h1 : bt c 0 < (c.size : Int)
    · refine Ev.step (f := fun k => node_Of.j2 k true c l (l.length : Int) (i : Int) false true K V []) (fun k => ?_) hj
      simp only [node_Of.l0]
      rw [if_pos (by omega), if_pos (by omega), if_pos (by omega), hrd, if_neg hE, if_pos (by omega), e1, if_neg (by omega)]
    · have hz : ((bt c 0) != 0) = false := bne_eq_false_iff_eq.2 (by omega)
      refine Ev.step (f := fun k => node_Of.j2 k true c l (l.length : Int) (i : Int) false true K V []) (fun k => ?_) hj
      simp only [node_Of.l0]
      rw [if_pos (by omega), if_pos (by omega), if_pos (by omega), hrd, if_neg hE, if_pos (by omega), e1, if_pos (by omega), hz]
  · rw [List.drop_length] at h0 ⊢
    simp only [List.map_nil, List.append_nil] at h0 ⊢
    refine Ev.step (f := fun k => some (true, K, V, [], 0)) (fun k => ?_) (Ev.now _)
    simp only [node_Of.l0, node_Check.f]
    rw [if_neg (by omega), if_pos ⟨by omega, by omega, by simp⟩]
    simp only [Option.bind_some]
    rw [if_pos h0]
theorem of_ev (l : List ByteArray) (hl : l.length ≤ 10000) (hok : ∀ c ∈ l, cellOk c = true) (h0 : chk true (l.map cellKey) (l.map cellRest) [] = 0) : Ev (fun k => node_Of.f k true l) (true, l.map cellKey, l.map cellRest, [], 0) := by
  unfold node_Of.f
  simp only [if_true]
  exact Ev.step (f := fun k => node_Of.l0 k true l (l.length : Int) ((0 : Nat) : Int) true [] [] []) (fun k => by simp only [node_Of.j0]; rfl) (ev_eq (of_leaf l hl hok 0 (Nat.zero_le _) [] [] (by simp) (by simp) (by simpa using h0)) (by simp))
def kA : List ByteArray := [(⟨#[97]⟩ : ByteArray), (⟨#[98]⟩ : ByteArray)]
def vA : List ByteArray := [(⟨#[120]⟩ : ByteArray), (⟨#[]⟩ : ByteArray)]
def cA : List ByteArray := [(⟨#[1, 97, 120]⟩ : ByteArray), (⟨#[1, 98]⟩ : ByteArray)]
theorem slt_def (a b : ByteArray) : slt a b = Op.bytesLess a.data.toList b.data.toList := by unfold slt; rw [toList_eq, toList_eq]
theorem chkA : chk true kA vA [] = 0 := by
  refine chk_mk (by decide +kernel) (by decide +kernel) ?_ ⟨rfl, rfl⟩
  unfold kA rising rising
  rw [slt_def]
  decide +kernel
theorem cellsA : cellsN true kA vA [] = cA := by decide +kernel
theorem keysA : cA.map cellKey = kA := by decide +kernel
theorem restA : cA.map cellRest = vA := by decide +kernel
theorem findA : node_Find.f true kA vA [] (⟨#[97, 97]⟩ : ByteArray) = some (1, false) := by
  have hr := (chk_zero chkA).2.2.1
  have h1 : below kA ⟨#[97, 97]⟩ = 1 := by
    unfold below
    rw [List.countP_congr (q := fun x => Op.bytesLess x.data.toList [97, 97]) (fun x _ => by rw [slt_def])]
    decide +kernel
  have h2 : isin kA ⟨#[97, 97]⟩ = false := by
    unfold isin kA
    simp only [List.any_cons, List.any_nil, toList_eq]
    decide +kernel
  unfold node_Find.f
  rw [if_pos ⟨hr, by decide⟩, h1, h2]
  rfl
theorem awake_ev : Ev (fun k => lunettelaw05_awake.f k) true := by
  unfold lunettelaw05_awake.f
  simp only [Option.bind_some]
  have hs : ∀ s ∈ kA, s.size ≤ 100000 := by decide +kernel
  have hs2 : ∀ s ∈ vA, s.size ≤ 100000 := by decide +kernel
  have hs3 : ∀ s ∈ cA, s.size ≤ 100000 := by decide +kernel
  have e1 := nodeCells_ev kA vA [] (by decide) (by decide) (by decide) hs hs2 chkA
  rw [cellsA] at e1
  have e2 := of_ev cA (by decide) (by decide +kernel) (by rw [keysA, restA]; exact chkA)
  rw [keysA, restA] at e2
  have e3 := Same01_ev cA cA (by decide)
  have e4 := Same05_ev true kA vA [] true kA vA [] (by decide) (by decide) (by decide)
  have e5 := nodeRoom_ev true kA vA [] (by decide) (by decide)
  have e6 : roomS true kA vA [] = 9 := by decide +kernel
  rw [e6] at e5
  refine Ev.bind e1 (Ev.bind e2 ?_)
  have hf := findA
  unfold kA vA at hf
  simp only [hf, Option.bind_some]
  refine Ev.bind (ev_eq e3 (by simp) : Ev _ true) ?_
  simp only [if_true]
  refine Ev.bind (ev_eq e4 (by simp) : Ev _ true) ?_
  simp only [if_true, Bool.false_eq_true, if_false]
  refine Ev.bind e5 ?_
  simp only [if_true]
  have hc := chkA
  unfold kA vA at hc
  simp only [node_Check.f, hc]
  exact ev_some rfl

end Go.Proofs.Ytpdlbebiapimoaa.PN
