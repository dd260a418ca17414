/- What FreeCells and FreeOf call, told with letters for lengths -/
import Derived.Test.YtmplcceghjofhaaHAwake
import Derived.Test.YtmplcceghjofhaaHRefC
namespace Go.Proofs.Ytmplcceghjofhaa.PF
open Go.RowKit Go.Proofs.YtmplcceghjofhaaW.PrintWords Go.Proofs.YtmplcceghjofhaaW.PrintLast Go.Proofs.YtmplcceghjofhaaW.PrintMore
set_option linter.unusedVariables false
set_option linter.unusedSimpArgs false
theorem str_atn {w : World} {A : Option Addr} {n : Nat} {l : List ByteArray} (h : Kd.string.C w A n l) (k : Nat) (hk : k < n) :
    ∃ ad s, A = some ad ∧ Aside0 (l[k]? = some s) ∧ w.cell? (ad.add k) = some (.string s) := by
  have hn : l.length = n := h.1
  obtain ⟨ad, e, hx⟩ := Kd.at_string h (k : Int) (by omega) (by omega)
  refine ⟨ad, l[k], e, ⟨List.getElem?_eq_getElem (by omega)⟩, ?_⟩
  rw [Int.toNat_natCast] at hx
  rw [hx]
  simp [rdOf, hn, hk]
set_option maxHeartbeats 4000000 in
set_option maxRecDepth 100000 in
theorem same_calls (A : Option Addr) (c : Nat) (B : Option Addr) (d n : Nat) (l : List ByteArray) (hn : n ≤ 100000) (w : World) (hr : Kd.string.C w A n l) (hr2 : Kd.string.C w B n l) :
    Calls Try.prog 21 #[.slice A n c, .slice B n d] w fun e w' => e = .returned (.bool true) ∧ ∃ m, w' = w.drewN m := by
  have H0 := Aside0.mk hr
  have H1 := Aside0.mk hr2
  clear hr hr2
  go_enter Try.func21, Try.ntmps21
  go_wp2_with fail
  go_loopw [5] (fun s5 wr => ∃ i : Nat, i ≤ n ∧ s5 = .int .i64 i ∧ Aside0 (Drawn0 w wr)) (fun s5 wr => n - (intOf s5).toNat)
  case atStart => exact ⟨0, Nat.zero_le _, rfl, ⟨Drawn0.refl _⟩⟩
  case round =>
    obtain ⟨i, hi, rfl, HB⟩ := hrel
    by_cases hil : i < n
    · obtain ⟨ad, s, rfl, hs, hc⟩ := str_atn (Kd.C_below H0.out HB.out.below) i hil
      obtain ⟨bd, s', rfl, hs', hc'⟩ := str_atn (Kd.C_below H1.out HB.out.below) i hil
      obtain rfl : s = s' := Option.some.inj (hs.out.symm.trans hs'.out)
      have hi0 : (0 : Int) ≤ (i : Int) := by omega
      have hi1 : (i : Int) < (n : Int) := by omega
      have hd : decide ((i : Int) < (n : Int)) = true := by simp; omega
      have hd' : decide (i < n) = true := by simp; omega
      go_wp2_with fail
      go_quiet (fail)
      have HB2 := Aside0.mk (HB.out.step nq)
      clear HB
      go_wp2
      go_roundw
      case rel => exact ⟨i + 1, by omega, by go_num, HB2⟩
      case measure => simp [intOf]; omega
    · obtain rfl : i = n := by omega
      have hd : decide ((i : Int) < (i : Int)) = false := by simp
      go_wp2_with fail
      go_ret
      exact ⟨rfl, HB.out.out⟩
theorem cells_row {l : List S25} {c : List ByteArray} (h : c ∈ cellsF l) : c.length ≤ 23 := by
  unfold cellsF at h
  rw [List.mem_map] at h
  obtain ⟨j, _, rfl⟩ := h
  rw [List.length_map, List.length_take]
  omega
theorem row_atn {w : World} {A : Option Addr} {n : Nat} {l : List (List ByteArray)} (h : Kd.C (Kd.slice 9 Kd.string) w A n l) (k : Nat) (hk : k < n) :
    ∃ ad A0 c0 c m, A = some ad ∧ Aside0 (l[k]? = some c) ∧ Aside0 (c.length = m) ∧ w.cell? (ad.add k) = some (.slice A0 m c0) ∧ m ≤ c0 ∧ Aside0 (Kd.string.C w A0 m c) := by
  have hn : l.length = n := h.1
  subst hn
  obtain ⟨ad, A0, c0, c, e, h1, h2, h3⟩ := row_at h k hk
  exact ⟨ad, A0, c0, c, c.length, e, h1, ⟨rfl⟩, h2, h3.out.1, ⟨h3.out.2⟩⟩
theorem fc_cells_no (A : Option Addr) (n c : Nat) (l : List S25) (hn : l.length = n) (hl : n ≤ 1000) (hc : n ≤ c) (w : World) (h : k25.C w A n l) (hk : chkF l = false) : Calls Try.prog 19 #[.slice A n c] w fun e w' => ∃ A' c', e = .returned (.tuple #[.slice A' 0 c', .int .i64 60]) ∧ Aside0 (Below w.heap.size w w') := by
  subst hn
  refine (free_Cells.calls A c l [] 60 w h hc (by unfold free_Cells.f; rw [if_pos (by omega), hk]; rfl)).mono ?_
  rintro e w' ⟨v, rfl, hv, hb⟩
  obtain ⟨A, c, rfl, h1, h2⟩ := V_lit hv 0 rfl
  exact ⟨A, c, rfl, ⟨hb⟩⟩
theorem fc_cells_yes (A : Option Addr) (n c m : Nat) (l : List S25) (hn : l.length = n) (hl : n ≤ 1000) (hc : n ≤ c) (w : World) (h : k25.C w A n l) (hk : chkF l = true) (hm : (cellsF l).length = m) : Calls Try.prog 19 #[.slice A n c] w fun e w' => ∃ A' c', e = .returned (.tuple #[.slice A' m c', .int .i64 0]) ∧ m ≤ c' ∧ Aside0 ((Kd.slice 9 Kd.string).C w' A' m (cellsF l)) ∧ Aside0 (Below w.heap.size w w') := by
  subst hn
  refine (free_Cells.calls A c l (cellsF l) 0 w h hc (by unfold free_Cells.f; rw [if_pos (by omega), hk]; rfl)).mono ?_
  rintro e w' ⟨v, rfl, hv, hb⟩
  obtain ⟨A, c, rfl, h1, h2⟩ := V_lit hv m hm
  exact ⟨A, c, rfl, h1, ⟨h2⟩, ⟨hb⟩⟩
theorem fc_rcheck (A : Option Addr) (n c : Nat) (l : List S25) (hn : l.length = n) (hl : n ≤ 1000) (hc : n ≤ c) (b : Bool) (hk : chkF l = b) (w : World) (h : k25.C w A n l) : Calls Try.prog 10 #[.slice A n c] w fun e w' => e = .returned (.bool b) ∧ Aside0 (Below w.heap.size w w') := by
  subst hn hk
  obtain ⟨k, hk⟩ := (rcheck_ev l (by omega)).rounds
  refine (lunetteref06_Check.calls k A c l _ w h hc hk).mono ?_
  rintro e w' ⟨rfl, hb⟩
  exact ⟨rfl, ⟨hb.below⟩⟩
theorem fc_check (A : Option Addr) (n c : Nat) (l : List S25) (hn : l.length = n) (hl : n ≤ 1000) (hc : n ≤ c) (b : Bool) (hk : chkF l = b) (w : World) (h : k25.C w A n l) : Calls Try.prog 12 #[.slice A n c] w fun e w' => e = .returned (.bool b) ∧ Aside0 (Below w.heap.size w w') := by
  subst hn hk
  obtain ⟨k, hk⟩ := (fcheck_ev l (by omega)).rounds
  refine (free_Check.calls k A c l _ w h hc hk).mono ?_
  rintro e w' ⟨rfl, hb⟩
  exact ⟨rfl, ⟨hb⟩⟩
theorem fc_rcells (A : Option Addr) (n c m : Nat) (l : List S25) (hn : l.length = n) (hl : n ≤ 10000) (w : World) (h : k25.C w A n l) (hk : chkF l = true) (hm : (cellsF l).length = m) : Calls Try.prog 20 #[.slice A n c] w fun e w' => ∃ A' c', e = .returned (.slice A' m c') ∧ m ≤ c' ∧ Aside0 ((Kd.slice 9 Kd.string).C w' A' m (cellsF l)) ∧ Aside0 (Below w.heap.size w w') := by
  subst hn
  refine (refCells_calls A c l w h (by omega) (fun x hx => ((chkF_pw l).1 hk).1 x hx)).mono ?_
  rintro e w' ⟨v, rfl, hv, hb⟩
  obtain ⟨A, c, rfl, h1, h2⟩ := V_lit hv m hm
  exact ⟨A, c, rfl, h1, ⟨h2⟩, ⟨hb⟩⟩
theorem fc_of_yes (A : Option Addr) (n c m : Nat) (cs : List (List ByteArray)) (l : List S25) (hn : cs.length = n) (hl : n ≤ 1000) (hx : ∀ x ∈ cs, x.length ≤ 1000) (hc : n ≤ c) (w : World) (h : (Kd.slice 9 Kd.string).C w A n cs) (hs : shapeF cs = true) (he : cs.flatten.map ofCell = l) (hk : chkF l = true) (hm : l.length = m) :
    Calls Try.prog 22 #[.slice A n c] w fun e w' => ∃ A' c', e = .returned (.tuple #[.slice A' m c', .int .i64 0]) ∧ m ≤ c' ∧ Aside0 (k25.C w' A' m l) ∧ Aside0 (Below w.heap.size w w') := by
  subst hn
  refine (free_Of.calls A c cs l 0 w h hc (by unfold free_Of.f; rw [if_pos ⟨by omega, fun x hx_ => by have := hx x hx_; omega⟩, he, hs, hk]; rfl)).mono ?_
  rintro e w' ⟨v, rfl, hv, hb⟩
  obtain ⟨A, c, rfl, h1, h2⟩ := V_lit hv m hm
  exact ⟨A, c, rfl, h1, ⟨h2⟩, ⟨hb⟩⟩
theorem fc_of_no (A : Option Addr) (n c : Nat) (cs : List (List ByteArray)) (hn : cs.length = n) (hl : n ≤ 1000) (hx : ∀ x ∈ cs, x.length ≤ 1000) (hc : n ≤ c) (w : World) (h : (Kd.slice 9 Kd.string).C w A n cs) (hs : (shapeF cs && chkF (cs.flatten.map ofCell)) = false) :
    Calls Try.prog 22 #[.slice A n c] w fun e w' => ∃ A' c', e = .returned (.tuple #[.slice A' 0 c', .int .i64 60]) ∧ Aside0 (Below w.heap.size w w') := by
  subst hn
  refine (free_Of.calls A c cs [] 60 w h hc (by unfold free_Of.f; rw [if_pos ⟨by omega, fun x hx_ => by have := hx x hx_; omega⟩, hs]; rfl)).mono ?_
  rintro e w' ⟨v, rfl, hv, hb⟩
  obtain ⟨A, c, rfl, h1, h2⟩ := V_lit hv 0 rfl
  exact ⟨A, c, rfl, ⟨hb⟩⟩
theorem fc_same (A : Option Addr) (n c : Nat) (A' : Option Addr) (c' : Nat) (l : List S25) (hn : l.length = n) (hl : n ≤ 10000) (hc : n ≤ c) (hc' : n ≤ c') (w : World) (h : k25.C w A n l) (h' : k25.C w A' n l) : Calls Try.prog 16 #[.slice A n c, .slice A' n c'] w fun e w' => e = .returned (.bool true) ∧ Aside0 (Below w.heap.size w w') := by
  subst hn
  obtain ⟨k, hk⟩ := (same_ev l l (by omega)).rounds
  rw [decide_eq_true (rfl : l = l)] at hk
  refine (lunetteref06_Same.calls k A c l A' c' l true w h hc h' hc' hk).mono ?_
  rintro e w' ⟨rfl, hb⟩
  exact ⟨rfl, ⟨hb.below⟩⟩
theorem R_lit' {α : Type} {d : Kd α} {e base n c m : Nat} {ok : Nat → Prop} {W : World} {A : Option Addr} {xs : List α} (h : d.R e W base ok (.slice A n c) xs) (hm : xs.length = m) : m ≤ c ∧ d.C W A m xs := by
  obtain ⟨h1, h2, h3⟩ := Kd.R_reads' h
  subst hm
  exact ⟨by omega, h3⟩
end Go.Proofs.Ytmplcceghjofhaa.PF
