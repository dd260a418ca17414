/- Plain laws: Room, Same, Of -/
import Derived.Test.YtpdlbebiapimoaaPure2
import Derived.Test.YtpdlbebiapimoaaHKit
namespace Go.Proofs.Ytpdlbebiapimoaa.PN
open Go.RowKit Go.Proofs.YtpdlbebiapimoaaW.PrintWords Go.Proofs.YtpdlbebiapimoaaW.PrintLast Go.Proofs.YtpdlbebiapimoaaW.PrintMore
set_option linter.unusedVariables false
set_option linter.unusedSimpArgs false
/-- Room: what both compute, wraps and all -/
def roomK (x : Int) (l : List ByteArray) : Int := l.foldl (fun x s => wrap64 (x + wrap64 (3 + (s.size : Int)))) x
def roomV (x : Int) (l : List ByteArray) : Int := l.foldl (fun x s => wrap64 (x + (s.size : Int))) x
def roomS (b : Bool) (ks vs : List ByteArray) (cs : List Int) : Int :=
  if b then wrap64 (roomV (roomK 0 ks) vs + wrap64 (4 * (cs.length : Int))) else wrap64 (wrap64 (roomV (roomK 0 ks) vs + 2) + wrap64 (4 * (cs.length : Int)))
theorem nodeRoom_ev (b : Bool) (ks vs : List ByteArray) (cs : List Int) (hk : ks.length ≤ 100000) (hv : vs.length ≤ 100000) : Ev (fun k => node_Room.f k b ks vs cs) (roomS b ks vs cs) := by
  have h1 : ∀ i, i ≤ vs.length → ∀ x, Ev (fun k => node_Room.l1 k x vs (vs.length : Int) (i : Int) b ks vs cs) (if b then wrap64 (roomV x (vs.drop i) + wrap64 (4 * (cs.length : Int))) else wrap64 (wrap64 (roomV x (vs.drop i) + 2) + wrap64 (4 * (cs.length : Int)))) := by
    refine down (fun i hi ih x => ?_) (fun x => ?_)
    · refine Ev.step (f := fun k => node_Room.l1 k (wrap64 (x + (vs[i].size : Int))) vs (vs.length : Int) ((i + 1 : Nat) : Int) b ks vs cs) (fun k => ?_) (ev_eq (ih _) ?_)
      · simp only [node_Room.l1]
        rw [if_pos (by omega), if_pos (by omega), if_pos (by omega), rdS_at hi, w1 (by omega)]
      · rw [List.drop_eq_getElem_cons hi]
        rfl
    · refine Ev.step (f := fun k => if b = true then some (wrap64 (x + wrap64 (4 * (cs.length : Int)))) else some (wrap64 (wrap64 (x + 2) + wrap64 (4 * (cs.length : Int))))) (fun k => ?_) (ev_if (fun h => ev_some ?_) (fun h => ev_some ?_))
      · simp only [node_Room.l1]
        rw [if_neg (by omega)]
      · rw [if_pos h, List.drop_length]; rfl
      · rw [if_neg h, List.drop_length]; rfl
  have h0 : ∀ i, i ≤ ks.length → ∀ x, Ev (fun k => node_Room.l0 k x ks (ks.length : Int) (i : Int) b ks vs cs) (if b then wrap64 (roomV (roomK x (ks.drop i)) vs + wrap64 (4 * (cs.length : Int))) else wrap64 (wrap64 (roomV (roomK x (ks.drop i)) vs + 2) + wrap64 (4 * (cs.length : Int)))) := by
    refine down (fun i hi ih x => ?_) (fun x => ?_)
    · refine Ev.step (f := fun k => node_Room.l0 k (wrap64 (x + wrap64 (3 + (ks[i].size : Int)))) ks (ks.length : Int) ((i + 1 : Nat) : Int) b ks vs cs) (fun k => ?_) (ev_eq (ih _) ?_)
      · simp only [node_Room.l0]
        rw [if_pos (by omega), if_pos (by omega), if_pos (by omega), rdS_at hi, w1 (by omega)]
      · rw [List.drop_eq_getElem_cons hi]
        rfl
    · refine Ev.step (f := fun k => node_Room.l1 k x vs (vs.length : Int) ((0 : Nat) : Int) b ks vs cs) (fun k => ?_) (ev_eq (h1 0 (Nat.zero_le _) x) ?_)
      · simp only [node_Room.l0]
        rw [if_neg (by omega)]
        rfl
      · rw [List.drop_length, List.drop_zero]; rfl
  exact h0 0 (Nat.zero_le _) 0
theorem refRoom_ev (b : Bool) (ks vs : List ByteArray) (cs : List Int) (hk : ks.length ≤ 100000) (hv : vs.length ≤ 100000) : Ev (fun k => lunetteref05_Room.f k b ks vs cs) (roomS b ks vs cs) := by
  have h1 : ∀ i, i ≤ vs.length → ∀ x, Ev (fun k => lunetteref05_Room.l1 k x (i : Int) b ks vs cs) (if b then wrap64 (roomV x (vs.drop i) + wrap64 (4 * (cs.length : Int))) else wrap64 (wrap64 (roomV x (vs.drop i) + 2) + wrap64 (4 * (cs.length : Int)))) := by
    refine down (fun i hi ih x => ?_) (fun x => ?_)
    · refine Ev.step (f := fun k => lunetteref05_Room.l1 k (wrap64 (x + (vs[i].size : Int))) ((i + 1 : Nat) : Int) b ks vs cs) (fun k => ?_) (ev_eq (ih _) ?_)
      · simp only [lunetteref05_Room.l1]
        rw [if_pos (by omega), if_pos (by omega), rdS_at hi, w1 (by omega)]
      · rw [List.drop_eq_getElem_cons hi]
        rfl
    · refine Ev.step (f := fun k => if b = true then some (wrap64 (x + wrap64 (4 * (cs.length : Int)))) else some (wrap64 (wrap64 (x + 2) + wrap64 (4 * (cs.length : Int))))) (fun k => ?_) (ev_if (fun h => ev_some ?_) (fun h => ev_some ?_))
      · simp only [lunetteref05_Room.l1]
        rw [if_neg (by omega)]
      · rw [if_pos h, List.drop_length]; rfl
      · rw [if_neg h, List.drop_length]; rfl
  have h0 : ∀ i, i ≤ ks.length → ∀ x, Ev (fun k => lunetteref05_Room.l0 k x (i : Int) b ks vs cs) (if b then wrap64 (roomV (roomK x (ks.drop i)) vs + wrap64 (4 * (cs.length : Int))) else wrap64 (wrap64 (roomV (roomK x (ks.drop i)) vs + 2) + wrap64 (4 * (cs.length : Int)))) := by
    refine down (fun i hi ih x => ?_) (fun x => ?_)
    · refine Ev.step (f := fun k => lunetteref05_Room.l0 k (wrap64 (x + wrap64 (3 + (ks[i].size : Int)))) ((i + 1 : Nat) : Int) b ks vs cs) (fun k => ?_) (ev_eq (ih _) ?_)
      · simp only [lunetteref05_Room.l0]
        rw [if_pos (by omega), if_pos (by omega), rdS_at hi, w1 (by omega)]
      · rw [List.drop_eq_getElem_cons hi]
        rfl
    · refine Ev.step (f := fun k => lunetteref05_Room.l1 k x ((0 : Nat) : Int) b ks vs cs) (fun k => ?_) (ev_eq (h1 0 (Nat.zero_le _) x) ?_)
      · simp only [lunetteref05_Room.l0]
        rw [if_neg (by omega)]
        rfl
      · rw [List.drop_length, List.drop_zero]; rfl
  exact h0 0 (Nat.zero_le _) 0
/-- Same -/
theorem ba_ext {a b : ByteArray} (h : a.toList = b.toList) : a = b := by
  rw [toList_eq, toList_eq] at h
  cases a with
  | mk a => cases b with
    | mk b => have : a = b := Array.toList_inj.1 h; rw [this]
theorem ba_eq {a b : ByteArray} : a.toList = b.toList ↔ a = b := ⟨ba_ext, fun h => by rw [h]⟩
theorem drop_iff {α : Type} {a b : List α} {i : Nat} (h1 : i < a.length) (h2 : i < b.length) : a.drop i = b.drop i ↔ a[i] = b[i] ∧ a.drop (i + 1) = b.drop (i + 1) := by
  rw [List.drop_eq_getElem_cons h1, List.drop_eq_getElem_cons h2, List.cons.injEq]
theorem Same01_ev (a b : List ByteArray) (ha : a.length ≤ 1000000) : Ev (fun k => lunetteref01_Same.f k a b) (decide (a = b)) := by
  unfold lunetteref01_Same.f
  refine ev_if (fun hl => ?_) (fun hl => ev_some ?_)
  · have hl : a.length = b.length := by omega
    have h0 : ∀ i, i ≤ a.length → Ev (fun k => lunetteref01_Same.l0 k a b (i : Int)) (decide (a.drop i = b.drop i)) := by
      refine down (fun i hi ih => ?_) ?_
      · have hi2 : i < b.length := by omega
        refine Ev.step (f := fun k => if (a[i]).toList = (b[i]).toList then lunetteref01_Same.l0 k a b ((i + 1 : Nat) : Int) else some false) (fun k => ?_) (ev_if (fun h => ev_eq ih ?_) (fun h => ev_some ?_))
        · simp only [lunetteref01_Same.l0]
          rw [if_pos (by omega), if_pos (by omega), if_pos (by omega), rdS_at hi, rdS_at hi2, w1 (by omega)]
        · rw [decide_eq_decide, drop_iff hi hi2]
          exact ⟨fun e => ⟨ba_ext h, e⟩, fun e => e.2⟩
        · rw [eq_comm, decide_eq_false_iff_not, drop_iff hi hi2]
          exact fun e => h (by rw [e.1])
      · refine Ev.step (f := fun k => some true) (fun k => ?_) (ev_some ?_)
        · simp only [lunetteref01_Same.l0]
          rw [if_neg (by omega)]
        · rw [List.drop_length, hl, List.drop_length]; simp
    exact ev_eq (h0 0 (Nat.zero_le _)) (by simp)
  · have : a ≠ b := fun e => hl (by rw [e])
    simp [this]
theorem Same05_ev (b : Bool) (ks vs : List ByteArray) (cs : List Int) (b' : Bool) (ks' vs' : List ByteArray) (cs' : List Int) (hk : ks.length ≤ 1000000) (hv : vs.length ≤ 1000000) (hc : cs.length ≤ 1000000) :
    Ev (fun k => lunetteref05_Same.f k b ks vs cs b' ks' vs' cs') (decide (b = b') && (decide (cs = cs') && (decide (ks = ks') && decide (vs = vs')))) := by
  have hend : Ev (fun k => ((lunetteref01_Same.f k ks ks').bind fun t => (if t = true then ((lunetteref01_Same.f k vs vs').bind fun t2 => (some t2)) else (some false)))) (decide (ks = ks') && decide (vs = vs')) := by
    refine Ev.bind (f := fun k t => if t = true then ((lunetteref01_Same.f k vs vs').bind fun t2 => (some t2)) else (some false)) (Same01_ev ks ks' hk) ?_
    refine ev_if (fun h => ?_) (fun h => ev_some ?_)
    · rw [h, Bool.true_and]
      exact Ev.bind (f := fun _ t => some t) (Same01_ev vs vs' hv) (Ev.now _)
    · rw [Bool.eq_false_iff.2 h]; rfl
  have hl : cs.length = cs'.length → ∀ i, i ≤ cs.length → Ev (fun k => lunetteref05_Same.l0 k (i : Int) b ks vs cs b' ks' vs' cs') (decide (cs.drop i = cs'.drop i) && (decide (ks = ks') && decide (vs = vs'))) := by
    intro hl
    refine down (fun i hi ih => ?_) ?_
    · have hi2 : i < cs'.length := by omega
      refine Ev.step (f := fun k => if (cs[i]) = (cs'[i]) then lunetteref05_Same.l0 k ((i + 1 : Nat) : Int) b ks vs cs b' ks' vs' cs' else some false) (fun k => ?_) (ev_if (fun h => ev_eq ih ?_) (fun h => ev_some ?_))
      · simp only [lunetteref05_Same.l0]
        rw [if_pos (by omega), if_pos (by omega), if_pos (by omega), rd_at hi, rd_at hi2, w1 (by omega)]
      · congr 1
        rw [decide_eq_decide, drop_iff hi hi2]
        exact ⟨fun e => ⟨h, e⟩, fun e => e.2⟩
      · have : decide (cs.drop i = cs'.drop i) = false := by rw [decide_eq_false_iff_not, drop_iff hi hi2]; exact fun e => h e.1
        rw [this]; rfl
    · refine Ev.step (f := fun k => ((lunetteref01_Same.f k ks ks').bind fun t => (if t = true then ((lunetteref01_Same.f k vs vs').bind fun t2 => (some t2)) else (some false)))) (fun k => ?_) (ev_eq hend ?_)
      · simp only [lunetteref05_Same.l0]
        rw [if_neg (by omega)]
      · rw [List.drop_length, hl, List.drop_length]; simp
  unfold lunetteref05_Same.f
  by_cases hb : b = b'
  · refine Ev.congr (f := fun k => lunetteref05_Same.j0 k ((cs.length : Int) != (cs'.length : Int)) b ks vs cs b' ks' vs' cs') (fun k => by rw [if_neg (by simp [hb])]) ?_
    by_cases hc : cs.length = cs'.length
    · have e : ((cs.length : Int) != (cs'.length : Int)) = false := bne_eq_false_iff_eq.2 (by omega)
      rw [e]
      refine Ev.step (f := fun k => lunetteref05_Same.l0 k ((0 : Nat) : Int) b ks vs cs b' ks' vs' cs') (fun k => by simp only [lunetteref05_Same.j0]; rw [if_neg (by decide)]; rfl) (ev_eq (hl hc 0 (Nat.zero_le _)) ?_)
      rw [List.drop_zero, List.drop_zero, decide_eq_true hb, Bool.true_and]
    · have e : ((cs.length : Int) != (cs'.length : Int)) = true := bne_iff_ne.2 (by omega)
      rw [e]
      refine Ev.step (f := fun k => some false) (fun k => by simp only [lunetteref05_Same.j0]; rw [if_pos trivial]) (ev_some ?_)
      have : cs ≠ cs' := fun e => hc (by rw [e])
      simp [this]
  · refine Ev.congr (f := fun k => lunetteref05_Same.j0 k true b ks vs cs b' ks' vs' cs') (fun k => by rw [if_pos (by simp [hb])]) ?_
    refine Ev.step (f := fun k => some false) (fun k => by simp only [lunetteref05_Same.j0]; rw [if_pos trivial]) (ev_some ?_)
    simp [hb]
/-- number -/
theorem orI (i : Nat) (x y : Int) (hx0 : 0 ≤ x) (hx : x % 2 ^ i = 0) (hx1 : x < 4294967296) (hy0 : 0 ≤ y) (hy : y < 2 ^ i) (hi : (2 : Int) ^ i ≤ 4294967296) : Go.bits .or .i64 x y = x + y :=
  bits_join .i64 32 (by decide) (fun n h0 h1 => by rw [IntKind.wrap_i64]; omega) i x y hx0 hx (by omega) hy0 hy (by omega)
theorem number_eq (s : ByteArray) (h : s.size = 4) : node_number.f s = some (num4 s) := by
  have b0 := bt_range s 0
  have b1 := bt_range s 1
  have b2 := bt_range s 2
  have b3 := bt_range s 3
  unfold node_number.f num4
  rw [if_pos (by omega), if_pos (by omega), if_pos (by omega), if_pos (by omega)]
  generalize bt s 0 = a at *
  generalize bt s 1 = b at *
  generalize bt s 2 = c at *
  generalize bt s 3 = d at *
  rw [w0 (x := a) (by omega) (by omega), w0 (x := b) (by omega) (by omega), w0 (x := c) (by omega) (by omega), w0 (x := d) (by omega) (by omega), w0 (by omega) (by omega), w0 (by omega) (by omega), w0 (by omega) (by omega)]
  rw [orI 24 (a * 16777216) (b * 65536) (by omega) (by omega) (by omega) (by omega) (by omega) (by decide)]
  rw [orI 16 (a * 16777216 + b * 65536) (c * 256) (by omega) (by omega) (by omega) (by omega) (by omega) (by decide)]
  rw [orI 8 (a * 16777216 + b * 65536 + c * 256) d (by omega) (by omega) (by omega) (by omega) (by omega) (by decide)]
/-- Of: what it makes of cells, one by one. -/
def ofL (b : Bool) : List ByteArray → List ByteArray → List ByteArray → List Int → Bool × List ByteArray × List ByteArray × List Int × Int
  | [], K, V, C => if chk b K V C = 0 then (b, K, V, C, 0) else (false, [], [], [], 50)
  | c :: r, K, V, C => if cellOk c then (if b then ofL b r (K ++ [cellKey c]) (V ++ [cellRest c]) C else if (cellRest c).size = 4 then ofL b r (K ++ [cellKey c]) V (C ++ [num4 (cellRest c)]) else (false, [], [], [], 50)) else (false, [], [], [], 50)
def ofS (b : Bool) (l : List ByteArray) : Bool × List ByteArray × List ByteArray × List Int × Int :=
  if b then ofL true l [] [] [] else match l with
    | [] => (false, [], [], [], 50)
    | c :: r => if c.size = 4 then ofL false r [] [] [num4 c] else (false, [], [], [], 50)
theorem of_l0 (b : Bool) (l : List ByteArray) (hl : l.length ≤ 10000) (hs : ∀ s ∈ l, s.size ≤ 100000) : ∀ i, i ≤ l.length → ∀ (K V : List ByteArray) (C : List Int), K.length ≤ 10000 + i → V.length ≤ 10000 + i → C.length ≤ 10000 + i →
    Ev (fun k => node_Of.l0 k b l (l.length : Int) (i : Int) b K V C) (ofL b (l.drop i) K V C) := by
  refine down (fun i hi ih K V C hK hV hC => ?_) (fun K V C hK hV hC => ?_)
  · rw [List.drop_eq_getElem_cons hi]
    have hsi := hs l[i] (List.getElem_mem _)
    have hb := bt_range l[i] 0
    generalize hc : l[i] = c at *
    have hrd : rdOf ByteArray.empty l (i : Int) = c := by rw [rdS_at hi, hc]
    have e1 : wrap64 (bt c 0) = bt c 0 := w0 (by omega) (by omega)
    have e2 : wrap64 (1 + bt c 0) = 1 + bt c 0 := w0 (by omega) (by omega)
    have e3 : ((1 + bt c 0 : Int)).toNat = 1 + (bt c 0).toNat := by omega
    have hj : cellOk c = true → Ev (fun k => node_Of.j2 k b c l (l.length : Int) (i : Int) false b K V C) (ofL b (c :: l.drop (i + 1)) K V C) := by
      intro hok
      have hok2 := hok
      unfold cellOk at hok2
      simp only [Bool.and_eq_true, Bool.or_eq_true, decide_eq_true_eq] at hok2
      cases b with
      | true =>
        refine Ev.step (f := fun k => node_Of.l0 k true l (l.length : Int) ((i + 1 : Nat) : Int) true (K ++ [cellKey c]) (V ++ [cellRest c]) C) (fun k => ?_) (ev_eq (ih _ _ _ (by simp; omega) (by simp; omega) (by omega)) ?_)
        · simp only [node_Of.j2]
          rw [if_neg (by decide), if_pos (by omega), e1, e2, if_pos (by omega), if_pos (by omega), if_pos (by omega), if_pos (by omega)]
          simp only [Option.bind_some]
          rw [if_pos trivial, if_pos (by omega), w1 (by omega), e3]
          rfl
        · simp only [ofL]
          rw [if_pos hok, if_pos trivial]
      | false =>
        by_cases h4 : (cellRest c).size = 4
        · refine Ev.step (f := fun k => node_Of.l0 k false l (l.length : Int) ((i + 1 : Nat) : Int) false (K ++ [cellKey c]) V (C ++ [num4 (cellRest c)])) (fun k => ?_) (ev_eq (ih _ _ _ (by simp; omega) (by omega) (by simp; omega)) ?_)
          · have hn := number_eq _ h4
            have h4' := h4
            unfold cellRest at hn h4'
            simp only [node_Of.j2]
            rw [if_neg (by decide), if_pos (by omega), e1, e2, if_pos (by omega), if_pos (by omega), if_pos (by omega), if_pos (by omega)]
            simp only [Option.bind_some]
            rw [if_neg (by decide), e3, if_pos (by omega), hn]
            simp only [Option.bind_some]
            rw [if_pos (by omega), w1 (by omega)]
            rfl
          · simp only [ofL]
            rw [if_pos hok, if_neg (by decide), if_pos h4]
        · refine Ev.step (f := fun k => some (false, [], [], [], 50)) (fun k => ?_) (ev_some ?_)
          · have h4' := h4
            unfold cellRest at h4'
            simp only [node_Of.j2]
            rw [if_neg (by decide), if_pos (by omega), e1, e2, if_pos (by omega), if_pos (by omega), if_pos (by omega), if_pos (by omega)]
            simp only [Option.bind_some]
            rw [if_neg (by decide), e3, if_neg (by omega)]
          · simp only [ofL]
            rw [if_pos hok, if_neg (by decide), if_neg h4]
    have hno : cellOk c = false → Ev (fun k => node_Of.j2 k b c l (l.length : Int) (i : Int) true b K V C) (ofL b (c :: l.drop (i + 1)) K V C) := by
      intro hok
      refine Ev.step (f := fun k => some (false, [], [], [], 50)) (fun k => ?_) (ev_some ?_)
      · simp only [node_Of.j2]
        rw [if_pos trivial]
      · simp only [ofL]
        rw [if_neg (by rw [hok]; decide)]
    by_cases h0 : c.size = 0
    · have hE : c.toList = [] := by rw [toList_eq]; exact List.eq_nil_of_length_eq_zero (by simpa using h0)
      refine Ev.step (f := fun k => node_Of.j2 k b c l (l.length : Int) (i : Int) true b K V C) (fun k => ?_) (hno ?_)
      · simp only [node_Of.l0]
        rw [if_pos (by omega), if_pos (by omega), if_pos (by omega), hrd, if_pos hE]
      · unfold cellOk; simp [h0]
    · have hE : ¬ c.toList = [] := fun h => h0 (by rw [toList_eq] at h; have := congrArg List.length h; simpa using this)
      by_cases h1 : bt c 0 < (c.size : Int)
      · refine Ev.step (f := fun k => node_Of.j2 k b c l (l.length : Int) (i : Int) false b K V C) (fun k => ?_) (hj ?_)
        · simp only [node_Of.l0]
          rw [if_pos (by omega), if_pos (by omega), if_pos (by omega), hrd, if_neg hE, if_pos (by omega), e1, if_neg (by omega)]
        · unfold cellOk; simp only [Bool.and_eq_true, Bool.or_eq_true, decide_eq_true_eq]; exact ⟨by omega, .inl h1⟩
      · have hz : ((bt c 0) != 0) = true := bne_iff_ne.2 (by omega)
        refine Ev.step (f := fun k => node_Of.j2 k b c l (l.length : Int) (i : Int) true b K V C) (fun k => ?_) (hno ?_)
        · simp only [node_Of.l0]
          rw [if_pos (by omega), if_pos (by omega), if_pos (by omega), hrd, if_neg hE, if_pos (by omega), e1, if_pos (by omega), hz]
        · unfold cellOk; rw [Bool.and_eq_false_iff]; right; simp; omega
  · rw [List.drop_length]
    simp only [ofL]
    refine Ev.step (f := fun k => if chk b K V C = 0 then some (b, K, V, C, 0) else some (false, [], [], [], 50)) (fun k => ?_) (ev_if (fun h => ev_some ?_) (fun h => ev_some ?_))
    · simp only [node_Of.l0, node_Check.f]
      rw [if_neg (by omega), if_pos ⟨by omega, by omega, by omega⟩]
      simp only [Option.bind_some]
    · rw [if_pos h]
    · rw [if_neg h]
theorem of_ev (b : Bool) (l : List ByteArray) (hl : l.length ≤ 10000) (hs : ∀ s ∈ l, s.size ≤ 100000) : Ev (fun k => node_Of.f k b l) (ofS b l) := by
  unfold node_Of.f ofS
  cases b with
  | true =>
    simp only [if_true]
    refine Ev.step (f := fun k => node_Of.l0 k true l (l.length : Int) ((0 : Nat) : Int) true [] [] []) (fun k => by simp only [node_Of.j0]; rfl) (ev_eq (of_l0 true l hl hs 0 (Nat.zero_le _) [] [] [] (by simp) (by simp) (by simp)) (by rw [List.drop_zero]))
  | false =>
    simp only [Bool.false_eq_true, if_false]
    cases l with
    | nil => exact ev_if (fun h => ev_some rfl) (fun h => absurd rfl h)
    | cons c r =>
      have h0 : rdOf ByteArray.empty (c :: r) 0 = c := rfl
      refine Ev.congr (f := fun k => if (c.size : Int) = 4 then ((node_number.f c).bind fun t => node_Of.j0 k false r false [t]) else some (false, [], [], [], 50)) (fun k => ?_) (ev_if (fun h => ?_) (fun h => ev_some ?_))
      · have hp : (1 : Int) ≤ (((c :: r).length : Nat) : Int) := by rw [List.length_cons]; omega
        rw [if_neg (by omega), if_pos (by omega), h0]
        simp only [if_pos hp, List.length_nil, List.nil_append, List.drop_one, List.tail_cons]
        rfl
      · have h4 : c.size = 4 := by omega
        rw [number_eq c h4]
        simp only [Option.bind_some]
        rw [if_pos h4]
        simp only [List.length_cons] at hl
        exact Ev.step (f := fun k => node_Of.l0 k false r (r.length : Int) ((0 : Nat) : Int) false [] [] [num4 c]) (fun k => by simp only [node_Of.j0]; rfl) (ev_eq (of_l0 false r (by omega) (fun s hs' => hs s (List.mem_cons_of_mem _ hs')) 0 (Nat.zero_le _) [] [] [num4 c] (by simp) (by simp) (by simp)) (by rw [List.drop_zero]))
      · show _ = if c.size = 4 then _ else _
        rw [if_neg (by omega)]

end Go.Proofs.Ytpdlbebiapimoaa.PN
