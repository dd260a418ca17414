/- Small lemmas: rows that are read, a node in a block of the call's own; The order of texts, byte by byte; where a key stands in a rising row; node.Find tells how many keys are below a key, and whether it is there -/
import Derived.Test.YtpdlbebiapimoaaHDefs
import Derived.WalkLawsBesides
namespace Go.Proofs.Ytpdlbebiapimoaa.PN
open Go.RowKit Go.Proofs.YtpdlbebiapimoaaW.PrintWords Go.Proofs.YtpdlbebiapimoaaW.PrintLast Go.Proofs.YtpdlbebiapimoaaW.PrintMore
set_option linter.unusedVariables false
set_option linter.unusedSimpArgs false
theorem str_at {w : World} {A : Option Addr} {l : List ByteArray} (h : Kd.C Kd.string w A l.length l) (k : Nat) (hk : k < l.length) :
    ∃ ad s, A = some ad ∧ Aside0 (l[k]? = some s) ∧ w.cell? (ad.add k) = some (.string s) := by
  obtain ⟨ad, e, hx⟩ := Kd.at_string h (k : Int) (by omega) (by omega)
  refine ⟨ad, l[k], e, ⟨List.getElem?_eq_getElem hk⟩, ?_⟩
  rw [Int.toNat_natCast] at hx
  rw [hx]
  simp [rdOf, hk]
theorem int_at {w : World} {A : Option Addr} {l : List Int} (h : Kd.C (Kd.int .i64) w A l.length l) (k : Nat) (hk : k < l.length) :
    ∃ ad s, A = some ad ∧ Aside0 (l[k]? = some s) ∧ w.cell? (ad.add k) = some (.int .i64 s) := by
  obtain ⟨ad, e, hx⟩ := Kd.at_int h (k : Int) (by omega) (by omega)
  refine ⟨ad, l[k], e, ⟨List.getElem?_eq_getElem hk⟩, ?_⟩
  rw [Int.toNat_natCast] at hx
  rw [hx]
  simp [rd, hk]
theorem any_snoc {α : Type} (l : List α) (p : α → Bool) (k : Nat) (x : α) (h : l[k]? = some x) : (l.take (k + 1)).any p = ((l.take k).any p || p x) := by
  rw [List.take_add_one, h]; simp
/-- The first place at which p holds, or -1. -/
def idxF {α : Type} (p : α → Bool) (l : List α) : Int := if l.any p then (l.findIdx p : Int) else -1
theorem idx_hit {α : Type} (p : α → Bool) (l : List α) (k : Nat) (x : α) (hn : (l.take k).any p = false) (h : l[k]? = some x) (hp : p x = true) : idxF p l = k := by
  obtain ⟨hk, hx⟩ := List.getElem?_eq_some_iff.1 h
  have ha : l.any p = true := List.any_eq_true.2 ⟨x, by rw [← hx]; exact List.getElem_mem hk, hp⟩
  have hf : l.findIdx p = k := by
    rw [List.findIdx_eq hk]
    refine ⟨by rw [hx]; exact hp, fun j hj => ?_⟩
    have := List.any_eq_false.1 hn (l[j]'(by omega)) (by rw [List.mem_take_iff_getElem]; exact ⟨j, by omega, rfl⟩)
    simpa using this
  unfold idxF
  rw [if_pos ha, hf]
theorem idx_miss {α : Type} (p : α → Bool) (l : List α) (hn : l.any p = false) : idxF p l = -1 := by
  unfold idxF
  rw [hn]
  rfl
theorem idx_ge {α : Type} (p : α → Bool) (l : List α) : (decide (0 ≤ idxF p l)) = l.any p := by
  unfold idxF
  cases l.any p <;> simp
theorem ret_int {k : IntKind} {a b : Int} (h : a = b) : Ending.returned (.int k a) = .returned (.int k b) := by rw [h]
theorem ret_bool {a b : Bool} (h : a = b) : Ending.returned (.bool a) = .returned (.bool b) := by rw [h]
theorem rising_snoc (l : List ByteArray) (j : Nat) (x y : ByteArray) (hx : l[j]? = some x) (hy : l[j + 1]? = some y) : rising (l.take (j + 2)) = (rising (l.take (j + 1)) && slt x y) := by
  induction j generalizing l with
  | zero =>
    match l, hx, hy with
    | a :: b :: r, hx, hy =>
      simp at hx hy
      subst hx hy
      simp [rising]
  | succ j ih =>
    match l, hx, hy with
    | a :: b :: r, hx, hy =>
      have h := ih (b :: r) (by simpa using hx) (by simpa using hy)
      simp only [List.take_succ_cons] at h ⊢
      simp only [rising]
      rw [h, Bool.and_assoc]
theorem rising_one (l : List ByteArray) : rising (l.take 1) = true := by
  match l with
  | [] => rfl
  | [_] => rfl
  | _ :: _ :: _ => rfl
theorem rising_not (l : List ByteArray) (k : Nat) (h : rising (l.take k) = false) : rising l = false := by
  induction k generalizing l with
  | zero => simp [rising] at h
  | succ k ih =>
    match l, h with
    | [], h => simpa using h
    | [a], h => simp [rising] at h
    | a :: b :: r, h =>
      cases k with
      | zero => simp [rising] at h
      | succ k =>
        have h2 := ih (b :: r)
        simp only [List.take_succ_cons, rising, Bool.and_eq_false_iff] at h h2 ⊢
        rcases h with h | h
        · exact .inl h
        · exact .inr (h2 h)
/-- A node that lies in a block of the call's own. -/
structure NBox (w : World) (g : Nat) (b : Bool) (A1 : Option Addr) (n1 c1 : Nat) (A2 : Option Addr) (n2 c2 : Nat) (A3 : Option Addr) (n3 c3 : Nat) : Prop where
  out : w.heap[g]? = some (.cells #[.bool b, .slice A1 n1 c1, .slice A2 n2 c2, .slice A3 n3 c3] 25 (0, 0))
theorem NBox.cells {w : World} {g : Nat} {b : Bool} {A1 : Option Addr} {n1 c1 : Nat} {A2 : Option Addr} {n2 c2 : Nat} {A3 : Option Addr} {n3 c3 : Nat} (h : NBox w g b A1 n1 c1 A2 n2 c2 A3 n3 c3) :
    w.cell? ⟨g, 0, none⟩ = some (.bool b) ∧ w.cell? ⟨g, 1, none⟩ = some (.slice A1 n1 c1) ∧ w.cell? ⟨g, 2, none⟩ = some (.slice A2 n2 c2) ∧ w.cell? ⟨g, 3, none⟩ = some (.slice A3 n3 c3) :=
  ⟨(blk_cell h.out 0).trans rfl, (blk_cell h.out 1).trans rfl, (blk_cell h.out 2).trans rfl, (blk_cell h.out 3).trans rfl⟩
theorem NBox.below {w w' : World} {g : Nat} {b : Bool} {A1 : Option Addr} {n1 c1 : Nat} {A2 : Option Addr} {n2 c2 : Nat} {A3 : Option Addr} {n3 c3 : Nat} (h : NBox w g b A1 n1 c1 A2 n2 c2 A3 n3 c3) (hb : Below w.heap.size w w') : NBox w' g b A1 n1 c1 A2 n2 c2 A3 n3 c3 :=
  ⟨(hb.block g (blk_lt h.out)).trans h.out⟩
theorem NBox.drewN {w : World} {g : Nat} {b : Bool} {A1 : Option Addr} {n1 c1 : Nat} {A2 : Option Addr} {n2 c2 : Nat} {A3 : Option Addr} {n3 c3 : Nat} (h : NBox w g b A1 n1 c1 A2 n2 c2 A3 n3 c3) (m : Nat) : NBox (w.drewN m) g b A1 n1 c1 A2 n2 c2 A3 n3 c3 := ⟨h.out⟩
theorem below_step2 {w w1 w2 : World} (h : Below w.heap.size w w1) (h2 : Below w1.heap.size w1 w2) : Below w.heap.size w w2 := below_step h h2

end Go.Proofs.Ytpdlbebiapimoaa.PN
namespace Go.Proofs.Ytpdlbebiapimoaa.PN
open Go.RowKit Go.Proofs.YtpdlbebiapimoaaW.PrintWords Go.Proofs.YtpdlbebiapimoaaW.PrintLast Go.Proofs.YtpdlbebiapimoaaW.PrintMore
set_option linter.unusedVariables false
set_option linter.unusedSimpArgs false
theorem bl_irrefl (x : List UInt8) : Op.bytesLess x x = false := by
  induction x with
  | nil => rfl
  | cons a r ih => simp [Op.bytesLess, ih]
theorem bl_trans (x y z : List UInt8) (h1 : Op.bytesLess x y = true) (h2 : Op.bytesLess y z = true) : Op.bytesLess x z = true := by
  induction x generalizing y z with
  | nil =>
    match y, z, h1, h2 with
    | _ :: _, _ :: _, _, _ => rfl
  | cons a x ih =>
    match y, z, h1, h2 with
    | b :: y, c :: z, h1, h2 =>
      simp only [Op.bytesLess, Bool.or_eq_true, decide_eq_true_eq, Bool.and_eq_true, beq_iff_eq] at h1 h2 ⊢
      rcases h1 with h1 | ⟨rfl, h1⟩
      · rcases h2 with h2 | ⟨rfl, h2⟩
        · exact .inl (UInt8.lt_trans h1 h2)
        · exact .inl h1
      · rcases h2 with h2 | ⟨rfl, h2⟩
        · exact .inl h2
        · exact .inr ⟨rfl, ih y z h1 h2⟩
theorem bl_total (x y : List UInt8) (h1 : Op.bytesLess x y = false) (h2 : Op.bytesLess y x = false) : x = y := by
  induction x generalizing y with
  | nil =>
    match y, h1 with
    | [], _ => rfl
  | cons a x ih =>
    match y, h1, h2 with
    | b :: y, h1, h2 =>
      simp only [Op.bytesLess, Bool.or_eq_false_iff, decide_eq_false_iff_not, Bool.and_eq_false_iff, beq_eq_false_iff_ne, ne_eq] at h1 h2
      have hab : a = b := by
        rcases UInt8.lt_or_lt_of_ne (a := a) (b := b) |> fun f => Classical.em (a = b) with h | h
        · exact h
        · rcases UInt8.lt_or_lt_of_ne h with h | h
          · exact absurd h h1.1
          · exact absurd h h2.1
      subst hab
      have e1 : Op.bytesLess x y = false := by simpa using h1.2
      have e2 : Op.bytesLess y x = false := by simpa using h2.2
      rw [ih y e1 e2]
theorem slt_irrefl (a : ByteArray) : slt a a = false := bl_irrefl _
theorem slt_trans {a b c : ByteArray} (h1 : slt a b = true) (h2 : slt b c = true) : slt a c = true := bl_trans _ _ _ h1 h2
theorem slt_asymm {a b : ByteArray} (h : slt a b = true) : slt b a = false := by
  cases h2 : slt b a with
  | false => rfl
  | true => have := slt_trans h h2; rw [slt_irrefl] at this; cases this
theorem slt_total {a b : ByteArray} (h1 : slt a b = false) (h2 : slt b a = false) : a.toList = b.toList := bl_total _ _ h1 h2
theorem slt_congr {a b c : ByteArray} (h : a.toList = b.toList) : slt a c = slt b c := by unfold slt; rw [h]
theorem slt_congr2 {a b c : ByteArray} (h : a.toList = b.toList) : slt c a = slt c b := by unfold slt; rw [h]
theorem slt_ne {a b : ByteArray} (h : slt a b = true) : a.toList ≠ b.toList := fun e => by rw [slt_congr e, slt_irrefl] at h; cases h
theorem rising_tail {a : ByteArray} {r : List ByteArray} (h : rising (a :: r) = true) : rising r = true := by
  match r, h with
  | [], _ => rfl
  | b :: r, h => simp only [rising, Bool.and_eq_true] at h; exact h.2
theorem rising_head {a : ByteArray} {r : List ByteArray} (h : rising (a :: r) = true) : ∀ x ∈ r, slt a x = true := by
  induction r generalizing a with
  | nil => intro x hx; cases hx
  | cons b r ih =>
    simp only [rising, Bool.and_eq_true] at h
    intro x hx
    rcases List.mem_cons.1 hx with rfl | hx
    · exact h.1
    · exact slt_trans h.1 (ih h.2 x hx)
theorem rising_cons {a : ByteArray} {r : List ByteArray} (h1 : ∀ x ∈ r, slt a x = true) (h2 : rising r = true) : rising (a :: r) = true := by
  match r, h1, h2 with
  | [], _, _ => rfl
  | b :: r, h1, h2 => simp only [rising, Bool.and_eq_true]; exact ⟨h1 b (by simp), h2⟩
/-- In a rising row the places ahead of 'below' are those whose key is below. -/
theorem below_iff {l : List ByteArray} (h : rising l = true) (key : ByteArray) (i : Nat) (x : ByteArray) (hx : l[i]? = some x) : slt x key = decide (i < below l key) := by
  induction l generalizing i with
  | nil => simp at hx
  | cons a r ih =>
    unfold below
    rw [List.countP_cons]
    cases ha : slt a key with
    | true =>
      cases i with
      | zero => simp at hx; subst hx; simp [ha]
      | succ i =>
        have := ih (rising_tail h) i (by simpa using hx)
        rw [this]
        unfold below
        simp
    | false =>
      have hz : r.countP (fun x => slt x key) = 0 := by
        rw [List.countP_eq_zero]
        intro y hy hk
        rw [slt_trans (rising_head h y hy) hk] at ha
        cases ha
      rw [hz]
      cases i with
      | zero => simp at hx; subst hx; simp [ha]
      | succ i =>
        have hm : x ∈ r := List.mem_of_getElem? (by simpa using hx)
        cases hk : slt x key with
        | false => simp
        | true => rw [slt_trans (rising_head h x hm) hk] at ha; cases ha
theorem below_le (l : List ByteArray) (key : ByteArray) : below l key ≤ l.length := List.countP_le_length
theorem isin_iff {l : List ByteArray} (h : rising l = true) (key : ByteArray) : isin l key = true ↔ ∃ x, l[below l key]? = some x ∧ x.toList = key.toList := by
  unfold isin
  rw [List.any_eq_true]
  constructor
  · rintro ⟨x, hm, he⟩
    have he : x.toList = key.toList := by simpa using he
    obtain ⟨i, hi⟩ := List.getElem?_of_mem hm
    have h1 := below_iff h key i x hi
    rw [slt_congr he, slt_irrefl] at h1
    have h1 : below l key ≤ i := by have := of_decide_eq_false h1.symm; omega
    have hle : i < l.length := (List.getElem?_eq_some_iff.1 hi).1
    rcases Nat.lt_or_ge (below l key) i with hlt | hge
    · have hb : below l key < l.length := by omega
      have h2 := below_iff h key (below l key) _ (List.getElem?_eq_getElem hb)
      rw [show decide (below l key < below l key) = false by simp] at h2
      have h3 := below_iff h x (below l key) _ (List.getElem?_eq_getElem hb)
      rw [slt_congr2 he, h2] at h3
      have h4 : below l x = below l key := by unfold below; refine List.countP_congr (fun y _ => by rw [slt_congr2 he])
      have h5 := below_iff h x i x hi
      exfalso
      -- x stands at i, all ahead are below it
      have : slt (l[below l key]) x = true := by
        have hp : ∀ (l : List ByteArray), rising l = true → ∀ (j i : Nat) (hj : j < i) (hi : i < l.length), slt (l[j]'(by omega)) l[i] = true := by
          intro l hl
          induction l with
          | nil => intro j i hj hi; simp at hi
          | cons a r ih =>
            intro j i hj hi
            match i, hj, hi with
            | i + 1, hj, hi =>
              cases j with
              | zero => exact rising_head hl _ (by simp)
              | succ j => exact ih (rising_tail hl) j i (by omega) (by simpa using hi)
        have := hp l h (below l key) i hlt hle
        rwa [(List.getElem?_eq_some_iff.1 hi).2] at this
      rw [slt_congr2 he, h2] at this
      cases this
    · obtain rfl : i = below l key := by omega
      exact ⟨x, hi, he⟩
  · rintro ⟨x, hi, he⟩
    exact ⟨x, List.mem_of_getElem? hi, by simpa using he⟩
theorem isin_at {l : List ByteArray} (h : rising l = true) (key : ByteArray) (x : ByteArray) (hx : l[below l key]? = some x) : isin l key = decide (x.toList = key.toList) := by
  cases hi : isin l key with
  | true =>
    obtain ⟨y, hy, he⟩ := (isin_iff h key).1 hi
    rw [hx] at hy
    cases hy
    simp [he]
  | false =>
    by_cases he : x.toList = key.toList
    · have := (isin_iff h key).2 ⟨x, hx, he⟩
      rw [hi] at this
      cases this
    · simp [he]
theorem isin_end {l : List ByteArray} (h : rising l = true) (key : ByteArray) (hx : l.length ≤ below l key) : isin l key = false := by
  cases hi : isin l key with
  | false => rfl
  | true =>
    obtain ⟨y, hy, _⟩ := (isin_iff h key).1 hi
    rw [List.getElem?_eq_none hx] at hy
    cases hy

end Go.Proofs.Ytpdlbebiapimoaa.PN
namespace Go.Proofs.Ytpdlbebiapimoaa.PN
open Go.RowKit Go.Proofs.YtpdlbebiapimoaaW.PrintWords Go.Proofs.YtpdlbebiapimoaaW.PrintLast Go.Proofs.YtpdlbebiapimoaaW.PrintMore
set_option linter.unusedVariables false
set_option linter.unusedSimpArgs false
set_option maxHeartbeats 1000000 in
theorem pred43 (q : Nat) (key s : ByteArray) (i : Nat) (gb gk : Nat) (b : Bool) (ad : Addr) (n1 c1 : Nat) (A2 : Option Addr) (n2 c2 : Nat) (A3 : Option Addr) (n3 c3 : Nat) (W : World) (hi : i < n1)
    (BK : NBox W gb b (some ad) n1 c1 A2 n2 c2 A3 n3 c3) (hk : W.cell? ⟨gk, 0, none⟩ = some (.string key)) (hc : W.cell? (ad.add i) = some (.string s)) (hs : Aside0 (slt s key = decide (i < q))) :
    Calls Try.prog 43 #[.int .i64 i, .pointer (some ⟨gb, 0, none⟩), .pointer (some ⟨gk, 0, none⟩)] W fun e W' => e = .returned (.bool (decide (q ≤ i))) ∧ ∃ m, W' = W.drewN m := by
  have hu25 := Try.underlying25
  obtain ⟨hx0, hx1, hx2, hx3⟩ := BK.cells
  have hi2 : (i : Int) < (n1 : Int) := by omega
  have hq : Aside0 ((!Op.bytesLess s.toList key.toList) = decide (q ≤ i)) := ⟨by
    have h : slt s key = decide (i < q) := hs.out
    unfold slt at h; rw [h]; by_cases h2 : i < q <;> simp [h2] <;> omega⟩
  go_enter Try.func43, Try.ntmps43
  go_wp2
  go_quiet (fail)
  go_wp2
  go_ret
  exact ⟨ret_bool hq.out, _, rfl⟩
set_option maxHeartbeats 2000000 in
set_option maxRecDepth 100000 in
theorem search42 (q n : Nat) (gb gk : Nat) (w : World) (hq : q ≤ n) (hn : n ≤ 100000)
    (hp : ∀ (m i : Nat), i < n → Calls Try.prog 43 #[.int .i64 i, .pointer (some ⟨gb, 0, none⟩), .pointer (some ⟨gk, 0, none⟩)] (w.drewN m) fun e W' => e = .returned (.bool (decide (q ≤ i))) ∧ ∃ m', W' = (w.drewN m).drewN m') :
    Calls Try.prog 42 #[.int .i64 n, .func (.func 43) #[] #[.pointer (some ⟨gb, 0, none⟩), .pointer (some ⟨gk, 0, none⟩)]] w fun e w' => e = .returned (.int .i64 q) ∧ ∃ m, w' = w.drewN m := by
  have HP := Aside0.mk hp
  clear hp
  have HQ := Aside0.mk hq
  clear hq
  go_enter Try.func42, Try.ntmps42
  go_wp2
  go_loopg [5, 6] n (fun kx s5 s6 wr => ∃ (lo hi m : Nat), s5 = .int .i64 lo ∧ s6 = .int .i64 hi ∧ hi ≤ n ∧ hi - lo ≤ kx ∧ wr = w.drewN m ∧ Aside0 (lo ≤ q) ∧ Aside0 (q ≤ hi))
  case atStart => exact ⟨0, n, 0, rfl, rfl, Nat.le_refl _, by omega, rfl, ⟨Nat.zero_le _⟩, HQ⟩
  case round =>
    obtain ⟨lo, hi, m, rfl, rfl, hin, hg, rfl, I1, I2⟩ := hrel
    by_cases hlt : lo < hi
    · have hc := HP.out m ((lo + hi) / 2) (by omega)
      rw [show (((lo + hi) / 2 : Nat) : Int) = ((lo : Int) + (hi : Int)) / 2 by omega] at hc
      by_cases hpq : q ≤ (lo + hi) / 2
      · rw [decide_eq_true hpq] at hc
        have HPQ := Aside0.mk hpq
        have HC := Aside0.mk hc
        clear hpq hc
        go_wp2_with fail
        refine HC.out.mono ?_
        rintro e w' ⟨rfl, m', rfl⟩
        clear HC
        go_wp2
        go_roundg (hi - lo - 1)
        case measure => have := I1.out; have := I2.out; omega
        case rel => exact ⟨lo, (lo + hi) / 2, m + m', rfl, by rw [show ((lo : Int) + (hi : Int)) / 2 = (((lo + hi) / 2 : Nat) : Int) by omega], by omega, by omega, rfl, I1, HPQ⟩
      · rw [decide_eq_false hpq] at hc
        have HPQ : Aside0 ((lo + hi) / 2 + 1 ≤ q) := ⟨by omega⟩
        have HC := Aside0.mk hc
        clear hpq hc
        go_wp2_with fail
        refine HC.out.mono ?_
        rintro e w' ⟨rfl, m', rfl⟩
        clear HC
        go_wp2
        go_roundg (hi - lo - 1)
        case measure => have := I1.out; have := I2.out; omega
        case rel => exact ⟨(lo + hi) / 2 + 1, hi, m + m', by rw [show ((lo : Int) + (hi : Int)) / 2 + 1 = (((lo + hi) / 2 + 1 : Nat) : Int) by omega], rfl, by omega, by omega, rfl, HPQ, I2⟩
    · have HE : Aside0 (lo = q) := ⟨by have := I1.out; have := I2.out; omega⟩
      go_wp2
      go_ret
      exact ⟨ret_int (by rw [HE.out]), m, rfl⟩
theorem ret_find {a b : Int} {c d : Bool} (h : a = b) (h2 : c = d) : Ending.returned (.tuple #[.int .i64 a, .bool c]) = .returned (.tuple #[.int .i64 b, .bool d]) := by rw [h, h2]
set_option maxHeartbeats 2000000 in
set_option maxRecDepth 100000 in
theorem node_Find.calls (a0_0 : Bool) (A0_1 : Option Addr) (c0_1 : Nat) (l0_1 : List ByteArray) (A0_2 : Option Addr) (c0_2 : Nat) (l0_2 : List ByteArray) (A0_3 : Option Addr) (c0_3 : Nat) (l0_3 : List Int) (a1 : ByteArray) (r1 : Int) (r2 : Bool) (w : World) (hr0_1 : Kd.C Kd.string w A0_1 l0_1.length l0_1) (hc0_1 : l0_1.length ≤ c0_1) (hr0_2 : Kd.C Kd.string w A0_2 l0_2.length l0_2) (hc0_2 : l0_2.length ≤ c0_2) (hr0_3 : Kd.C (Kd.int .i64) w A0_3 l0_3.length l0_3) (hc0_3 : l0_3.length ≤ c0_3) (h : node_Find.f a0_0 l0_1 l0_2 l0_3 a1 = some (r1, r2)) :
    Calls Try.prog 24 #[.agg #[.bool a0_0, .slice A0_1 l0_1.length c0_1, .slice A0_2 l0_2.length c0_2, .slice A0_3 l0_3.length c0_3], .string a1] w fun e w' => e = .returned (.tuple #[.int .i64 r1, .bool r2]) ∧ Below w.heap.size w w' := by
  unfold node_Find.f at h
  split at h
  case isFalse => cases h
  rename_i hsz
  obtain ⟨hri, hlen⟩ := hsz
  have HRI := Aside0.mk hri
  have HR1 := Aside0.mk (Prod.mk.inj (Option.some.inj h)).1
  have HR2 := Aside0.mk (Prod.mk.inj (Option.some.inj h)).2
  clear h hri
  have H1 := Aside0.mk hr0_1
  clear hr0_1 hr0_2 hr0_3
  have hu25 := Try.underlying25
  go_enter Try.func24, Try.ntmps24
  go_wp2_with (first | ((with_reducible refine gate_dst (N := 2) rfl ?_); refine box_event ?hg (N := 2) ?hd (cs := #[.bool a0_0, .slice A0_1 l0_1.length c0_1, .slice A0_2 l0_2.length c0_2, .slice A0_3 l0_3.length c0_3]) (t := 25) ?hr ?_; (case hd => rfl); (case hg => rfl); (case hr => first | (go_simp; done) | (go_simp; rfl)); intro gb hg w2 hbox hb; have HB := Aside0.mk hb; have BK := NBox.mk hbox; clear hg hbox hb) | ((with_reducible refine gate_dst (N := 3) rfl ?_); refine box_event ?hg (N := 3) ?hd (cs := #[.string a1]) (t := 9) ?hr ?_; (case hd => rfl); (case hg => rfl); (case hr => first | (go_simp; done) | (go_simp; rfl)); intro gk hg w3 hbox hb; replace BK := BK.below hb; replace HB := Aside0.mk (below_step HB.out hb); have HK : w3.cell? ⟨gk, 0, none⟩ = some (.string a1) := (blk_cell hbox 0).trans rfl; clear hg hbox hb; obtain ⟨hx0, hx1, hx2, hx3⟩ := BK.cells))
  refine (search42 (below l0_1 a1) l0_1.length gb gk _ (below_le _ _) hlen (fun m i hi => ?_)).mono ?_
  · obtain ⟨ad, s, hA, hs, hx⟩ := str_at (Kd.C_below H1.out HB.out) i hi
    subst hA
    exact pred43 (below l0_1 a1) a1 s i gb gk _ _ _ _ _ _ _ _ _ _ _ hi (BK.drewN m) HK hx ⟨below_iff HRI.out a1 i s hs.out⟩
  rintro e w' ⟨rfl, m, rfl⟩
  by_cases hb : below l0_1 a1 < l0_1.length
  · obtain ⟨ad, s, hA, hs, hx⟩ := str_at (Kd.C_below H1.out HB.out) (below l0_1 a1) hb
    subst hA
    have hi2 : (below l0_1 a1 : Int) < (l0_1.length : Int) := by omega
    have HI := Aside0.mk (isin_at HRI.out a1 s hs.out)
    have HQ2 : below l0_1 a1 ≤ 100000 := by omega
    generalize below l0_1 a1 = q at *
    by_cases he : s.toList = a1.toList
    · have hbe : (s.toList == a1.toList) = true := beq_iff_eq.2 he
      have HR : Aside0 (isin l0_1 a1 = true) := ⟨by rw [HI.out]; simpa using he⟩
      rw [HR.out] at HR1 HR2
      clear he hb
      go_wp2_with fail
      go_quiet (fail)
      cases a0_0 with
      | true =>
        go_wp2
        go_ret2
        exact ⟨ret_find (by simpa using HR1.out) HR2.out, pw_below_drewN HB.out _⟩
      | false =>
        go_wp2
        go_ret2
        exact ⟨ret_find (by simpa using HR1.out) HR2.out, pw_below_drewN HB.out _⟩
    · have hbe : (s.toList == a1.toList) = false := beq_eq_false_iff_ne.2 he
      have HR : Aside0 (isin l0_1 a1 = false) := ⟨by rw [HI.out]; simpa using he⟩
      rw [HR.out] at HR1 HR2
      clear he hb
      go_wp2_with fail
      go_quiet (fail)
      go_wp2
      go_ret2
      exact ⟨ret_find (by simpa using HR1.out) HR2.out, pw_below_drewN HB.out _⟩
  · have HR : Aside0 (isin l0_1 a1 = false) := ⟨isin_end HRI.out a1 (by omega)⟩
    rw [HR.out] at HR1 HR2
    have hge : decide ((below l0_1 a1 : Int) < (l0_1.length : Int)) = false := by simp; omega
    have hge2 : decide (below l0_1 a1 < l0_1.length) = false := by simp; omega
    have HQ2 : below l0_1 a1 ≤ 100000 := by have := below_le l0_1 a1; omega
    generalize below l0_1 a1 = q at *
    clear hb
    go_wp2_with fail
    go_quiet (fail)
    go_wp2
    go_ret2
    exact ⟨ret_find (by simpa using HR1.out) HR2.out, pw_below_drewN HB.out _⟩

end Go.Proofs.Ytpdlbebiapimoaa.PN
