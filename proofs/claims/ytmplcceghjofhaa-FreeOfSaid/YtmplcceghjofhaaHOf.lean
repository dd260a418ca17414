/- free.Of -/
import Derived.Test.YtmplcceghjofhaaHOf0
import Derived.Test.YtmplcceghjofhaaHTake
import Derived.Test.YtmplcceghjofhaaPureChk
namespace Go.Proofs.Ytmplcceghjofhaa.PF
open Go.RowKit Go.Proofs.YtmplcceghjofhaaW.PrintWords Go.Proofs.YtmplcceghjofhaaW.PrintLast Go.Proofs.YtmplcceghjofhaaW.PrintMore
set_option linter.unusedVariables false
set_option linter.unusedSimpArgs false
def ofs (x : List ByteArray) : List S25 := x.map ofCell
theorem cells_snoc (x c : List ByteArray) (j : Nat) (s : ByteArray) (h : c[j]? = some s) : ofs (x ++ c.take (j + 1)) = ofs (x ++ c.take j) ++ [ofCell s] := by
  unfold ofs; rw [List.take_add_one, h]; simp
theorem bt_byte (s : ByteArray) (k : Nat) (h : k < s.size) : ((s[k]'h).toNat : Int) = bt s (k : Int) := by
  unfold bt
  simp [h]
  try rfl
theorem own_ltF {W : World} {base k : Nat} {ok : Nat → Prop} {v : Value} {xs : List S25} (h : k25.R 25 W base ok v xs) (hk : v.ownBlock = some k) : k < W.heap.size := by
  obtain ⟨_, _, ho, _⟩ := h
  exact own_lt ho k hk
theorem row_at {w : World} {A : Option Addr} {l : List (List ByteArray)} (h : Kd.C (Kd.slice 9 Kd.string) w A l.length l) (k : Nat) (hk : k < l.length) :
    ∃ ad A0 c0 c, A = some ad ∧ Aside0 (l[k]? = some c) ∧ w.cell? (ad.add k) = some (.slice A0 c.length c0) ∧ Aside0 (c.length ≤ c0 ∧ Kd.string.C w A0 c.length c) := by
  obtain ⟨ad, A0, c0, e, h1, h2, h3⟩ := at_L5 h (k : Int) (by omega) (by omega)
  have hr : rd_L5 l (k : Int) = l[k] := by simp [rd_L5, hk]
  rw [hr] at h1 h2 h3
  rw [Int.toNat_natCast] at h1
  exact ⟨ad, A0, c0, l[k], e, ⟨List.getElem?_eq_getElem hk⟩, h1, ⟨h2, h3⟩⟩
theorem str_at {w : World} {A : Option Addr} {l : List ByteArray} (h : Kd.C Kd.string w A l.length l) (k : Nat) (hk : k < l.length) :
    ∃ ad s, A = some ad ∧ Aside0 (l[k]? = some s) ∧ w.cell? (ad.add k) = some (.string s) := by
  obtain ⟨ad, e, hx⟩ := Kd.at_string h (k : Int) (by omega) (by omega)
  refine ⟨ad, l[k], e, ⟨List.getElem?_eq_getElem hk⟩, ?_⟩
  rw [Int.toNat_natCast] at hx
  rw [hx]
  simp [rdOf, hk]
abbrev o22_16_0 : Oper := { dst := some 51, op := .fieldAddr 25 (.tmp 9) 0, type := 0, pos := "free.go:93", after := #[], guard := none }
abbrev o22_16_1 : Oper := { dst := some 52, op := .load 3 (.tmp 51), type := 3, pos := "free.go:93", after := #[{ on := 0, ground := .data }], guard := none }
abbrev o22_16_2 : Oper := { dst := some 53, op := .binOp .shl 3 (.tmp 52) (.const (.int .u64 8)) 58, type := 3, pos := "free.go:93", after := #[{ on := 1, ground := .data }], guard := none }
abbrev o22_16_3 : Oper := { dst := some 54, op := .move (.tmp 8), type := 9, pos := "free.go:93", after := #[], guard := none }
abbrev o22_16_4 : Oper := { dst := some 55, op := .move (.tmp 10), type := 3, pos := "free.go:93", after := #[], guard := none }
abbrev o22_16_5 : Oper := { dst := some 56, op := .index 9 (.tmp 54) (.tmp 55), type := 5, pos := "free.go:93", after := #[{ on := 3, ground := .data }, { on := 4, ground := .data }], guard := none }
abbrev o22_16_6 : Oper := { dst := some 57, op := .convert 5 3 (.tmp 56), type := 3, pos := "free.go:93", after := #[{ on := 5, ground := .data }], guard := none }
abbrev o22_16_7 : Oper := { dst := some 58, op := .binOp .or 3 (.tmp 53) (.tmp 57) 3, type := 3, pos := "free.go:93", after := #[{ on := 2, ground := .data }, { on := 6, ground := .data }], guard := none }
abbrev o22_16_8 : Oper := { dst := some 59, op := .fieldAddr 25 (.tmp 9) 1, type := 0, pos := "free.go:93", after := #[], guard := none }
abbrev o22_16_9 : Oper := { dst := some 60, op := .load 3 (.tmp 59), type := 3, pos := "free.go:93", after := #[{ on := 8, ground := .data }], guard := none }
abbrev o22_16_10 : Oper := { dst := some 61, op := .binOp .shl 3 (.tmp 60) (.const (.int .u64 8)) 58, type := 3, pos := "free.go:93", after := #[{ on := 9, ground := .data }], guard := none }
abbrev o22_16_11 : Oper := { dst := some 62, op := .move (.tmp 8), type := 9, pos := "free.go:93", after := #[], guard := none }
abbrev o22_16_12 : Oper := { dst := some 63, op := .move (.tmp 10), type := 3, pos := "free.go:93", after := #[], guard := none }
abbrev o22_16_13 : Oper := { dst := some 64, op := .binOp .add 3 (.const (.int .i64 4)) (.tmp 63) 3, type := 3, pos := "free.go:93", after := #[{ on := 12, ground := .data }], guard := none }
abbrev o22_16_14 : Oper := { dst := some 65, op := .index 9 (.tmp 62) (.tmp 64), type := 5, pos := "free.go:93", after := #[{ on := 11, ground := .data }, { on := 13, ground := .data }], guard := none }
abbrev o22_16_15 : Oper := { dst := some 66, op := .convert 5 3 (.tmp 65), type := 3, pos := "free.go:93", after := #[{ on := 14, ground := .data }], guard := none }
abbrev o22_16_16 : Oper := { dst := some 67, op := .binOp .or 3 (.tmp 61) (.tmp 66) 3, type := 3, pos := "free.go:93", after := #[{ on := 10, ground := .data }, { on := 15, ground := .data }], guard := none }
abbrev o22_16_17 : Oper := { dst := some 68, op := .fieldAddr 25 (.tmp 9) 0, type := 0, pos := "free.go:93", after := #[{ on := 0, ground := .phase }, { on := 1, ground := .phase }, { on := 2, ground := .phase }, { on := 3, ground := .phase }, { on := 4, ground := .phase }, { on := 5, ground := .phase }, { on := 6, ground := .phase }, { on := 7, ground := .phase }, { on := 8, ground := .phase }, { on := 9, ground := .phase }, { on := 10, ground := .textOnly .lateStoresUnsure }, { on := 11, ground := .textOnly .lateStores }, { on := 12, ground := .textOnly .lateStores }, { on := 13, ground := .textOnly .lateStores }, { on := 14, ground := .textOnly .lateStores }, { on := 15, ground := .textOnly .lateStores }, { on := 16, ground := .textOnly .lateStoresUnsure }], guard := none }
abbrev o22_16_18 : Oper := { dst := none, op := .store 3 (.tmp 68) (.tmp 58), type := 0, pos := "free.go:93", after := #[{ on := 17, ground := .data }, { on := 7, ground := .data }, { on := 0, ground := .phase }, { on := 1, ground := .phase }, { on := 2, ground := .phase }, { on := 3, ground := .phase }, { on := 4, ground := .phase }, { on := 5, ground := .phase }, { on := 6, ground := .phase }, { on := 7, ground := .phase }, { on := 8, ground := .phase }, { on := 9, ground := .phase }, { on := 10, ground := .textOnly .lateStoresUnsure }, { on := 11, ground := .textOnly .lateStores }, { on := 12, ground := .textOnly .lateStores }, { on := 13, ground := .textOnly .lateStores }, { on := 14, ground := .textOnly .lateStores }, { on := 15, ground := .textOnly .lateStores }, { on := 16, ground := .textOnly .lateStoresUnsure }], guard := none }
abbrev o22_16_19 : Oper := { dst := some 69, op := .fieldAddr 25 (.tmp 9) 1, type := 0, pos := "free.go:93", after := #[{ on := 0, ground := .phase }, { on := 1, ground := .phase }, { on := 2, ground := .phase }, { on := 3, ground := .phase }, { on := 4, ground := .phase }, { on := 5, ground := .phase }, { on := 6, ground := .phase }, { on := 7, ground := .phase }, { on := 8, ground := .phase }, { on := 9, ground := .phase }, { on := 10, ground := .phase }, { on := 11, ground := .phase }, { on := 12, ground := .phase }, { on := 13, ground := .phase }, { on := 14, ground := .phase }, { on := 15, ground := .phase }, { on := 16, ground := .phase }, { on := 17, ground := .phase }, { on := 18, ground := .phase }], guard := none }
abbrev o22_16_20 : Oper := { dst := none, op := .store 3 (.tmp 69) (.tmp 67), type := 0, pos := "free.go:93", after := #[{ on := 19, ground := .data }, { on := 16, ground := .data }, { on := 18, ground := .chain }, { on := 0, ground := .phase }, { on := 1, ground := .phase }, { on := 2, ground := .phase }, { on := 3, ground := .phase }, { on := 4, ground := .phase }, { on := 5, ground := .phase }, { on := 6, ground := .phase }, { on := 7, ground := .phase }, { on := 8, ground := .phase }, { on := 9, ground := .phase }, { on := 10, ground := .phase }, { on := 11, ground := .phase }, { on := 12, ground := .phase }, { on := 13, ground := .phase }, { on := 14, ground := .phase }, { on := 15, ground := .phase }, { on := 16, ground := .phase }, { on := 17, ground := .phase }, { on := 18, ground := .phase }], guard := none }
set_option maxHeartbeats 8000000 in
set_option maxRecDepth 100000 in
theorem free_Of.calls (A0 : Option Addr) (c0 : Nat) (l0 : List (List ByteArray)) (r1 : List (S25)) (r2 : Int) (w : World) (hr0 : Kd.C (Kd.slice 9 Kd.string) w A0 l0.length l0) (hc0 : l0.length ≤ c0) (h : free_Of.f l0 = some (r1, r2)) :
    Calls Try.prog 22 #[.slice A0 l0.length c0] w fun e w' => ∃ v0_ : Value, e = .returned (.tuple #[v0_, .int .i64 r2]) ∧ Kd.V k25 25 w' w.heap.size (fun k_ => (w.heap.size ≤ k_)) v0_ r1 ∧ Below w.heap.size w w' := by
  unfold free_Of.f at h
  split at h
  case isFalse => cases h
  rename_i hsz
  obtain ⟨hl, hx⟩ := hsz
  have HX := Aside0.mk hx
  have HR := Aside0.mk (Option.some.inj h)
  rw [show l0.flatten.map ofCell = ofs l0.flatten from rfl] at HR
  have H0 := Aside0.mk hr0
  have HT := Aside0.mk (tot_le l0 100000 hx)
  have hu25 := Try.underlying25
  clear h hx hr0
  go_enter Try.func22, Try.ntmps22
  go_wp2_with fail
  go_loopw [4, 13] (fun s4 s13 wr => ∃ (i : Nat) (E : Option Addr) (n e : Nat), i ≤ l0.length ∧ s13 = .int .i64 i ∧ s4 = .slice E n e ∧ Aside0 (k25.R 25 wr w.heap.size (fun _ => True) (.slice E n e) (ofs (l0.take i).flatten)) ∧ Aside0 (Below w.heap.size w wr) ∧ Aside0 (∀ j c, j < i → l0[j]? = some c → rowOk l0.length j c)) (fun s4 s13 wr => l0.length - (intOf s13).toNat)
  case atStart => exact ⟨0, none, 0, 0, Nat.zero_le _, rfl, rfl, ⟨Kd.R_nil _ _ _ _ _⟩, ⟨Below.refl _ _⟩, ⟨fun j c h => absurd h (by omega)⟩⟩
  case round =>
    obtain ⟨i, E, n, e, hi, rfl, rfl, HO, HB, HK⟩ := hrel
    by_cases hil : i < l0.length
    · obtain ⟨ad, A1, c1, c, rfl, hs, hcw, hC⟩ := row_at H0.out i hil
      have hcell := cell_keep hcw _ HB.out
      clear hcw
      have hi1 : (i : Int) < (l0.length : Int) := by omega
      have hi0 : (0 : Int) ≤ (i : Int) := by omega
      have hd : decide ((i : Int) < (l0.length : Int)) = true := by simp; omega
      by_cases z0 : c.length = 0
      · have HN := Aside0.mk (shapeF_no hs.out (fun h_ => by have := h_.1.1; omega))
        have d0 : ((c.length : Int) == 0) = true := beq_iff_eq.2 (by omega)
        clear z0
        have HR2 := HR.out
        rw [if_neg (by rw [HN.out]; simp)] at HR2
        simp only [Prod.mk.injEq] at HR2
        obtain ⟨rfl, rfl⟩ := HR2
        clear HR
        go_wp2
        go_ret2
        exact ⟨_, rfl, Kd.V_nil _ _ _ _ _, HB.out⟩
      have d0 : ((c.length : Int) == 0) = false := beq_eq_false_iff_ne.2 (by omega)
      by_cases z1 : 23 < c.length
      · have HN := Aside0.mk (shapeF_no hs.out (fun h_ => by have := h_.1.2.1; omega))
        have d1 : decide ((23 : Int) < (c.length : Int)) = true := by simp; omega
        have d1' : decide (23 < c.length) = true := by simp; omega
        clear z1 z0
        have HR2 := HR.out
        rw [if_neg (by rw [HN.out]; simp)] at HR2
        simp only [Prod.mk.injEq] at HR2
        obtain ⟨rfl, rfl⟩ := HR2
        clear HR
        go_wp2
        go_ret2
        exact ⟨_, rfl, Kd.V_nil _ _ _ _ _, HB.out⟩
      have d1 : decide ((23 : Int) < (c.length : Int)) = false := by simp; omega
      have d1' : decide (23 < c.length) = false := by simp; omega
      by_cases z2 : c.length < 23 ∧ i + 1 < l0.length
      · have HN := Aside0.mk (shapeF_no hs.out (fun h_ => by have := h_.1.2.2; omega))
        have d2 : decide ((c.length : Int) < 23) = true := by simp; omega
        have d2' : decide (c.length < 23) = true := by simp; omega
        have d3 : decide ((i : Int) + 1 < (l0.length : Int)) = true := by simp; omega
        clear z0 z1 z2
        have HR2 := HR.out
        rw [if_neg (by rw [HN.out]; simp)] at HR2
        simp only [Prod.mk.injEq] at HR2
        obtain ⟨rfl, rfl⟩ := HR2
        clear HR
        go_wp2
        go_ret2
        exact ⟨_, rfl, Kd.V_nil _ _ _ _ _, HB.out⟩
      have HROW : Aside0 (0 < c.length ∧ c.length ≤ 23 ∧ (c.length = 23 ∨ l0.length ≤ i + 1)) := ⟨by omega⟩
      have hcl : c.length ≤ 23 := by omega
      have d3 : c.length < 23 → decide ((i : Int) + 1 < (l0.length : Int)) = false := fun h_ => by simp; omega
      by_cases z3 : c.length < 23
      case' pos =>
        have d2 : decide ((c.length : Int) < 23) = true := by simp; omega
        have d2' : decide (c.length < 23) = true := by simp; omega
        replace d3 := d3 z3
        clear z0 z1 z2 z3
        go_wp2_with fail
      case' neg =>
        have d2 : decide ((c.length : Int) < 23) = false := by simp; omega
        have d2' : decide (c.length < 23) = false := by simp; omega
        clear z0 z1 z2 z3 d3
        go_wp2_with fail
      all_goals
        go_loopw [4, 40] (fun s4 s40 wr => ∃ (j : Nat) (E : Option Addr) (n e : Nat), j ≤ c.length ∧ s40 = .int .i64 j ∧ s4 = .slice E n e ∧ Aside0 (k25.R 25 wr w.heap.size (fun _ => True) (.slice E n e) (ofs ((l0.take i).flatten ++ c.take j))) ∧ Aside0 (Below w.heap.size w wr) ∧ Aside0 (∀ s ∈ c.take j, s.size = 8)) (fun s4 s40 wr => c.length - (intOf s40).toNat)
        case atStart => exact ⟨0, E, n, e, Nat.zero_le _, rfl, rfl, ⟨by rw [List.take_zero, List.append_nil]; exact HO.out⟩, HB, ⟨by simp⟩⟩
        case round =>
          clear HO HB hcell d2 d2'
          obtain ⟨j, E, n, e, hj, rfl, rfl, HO, HB, H8⟩ := hrel
          by_cases hjl : j < c.length
          · obtain ⟨ad2, s, hA, hs2, hcw⟩ := str_at hC.out.2 j hjl
            subst hA
            have hcell2 := cell_keep hcw _ HB.out
            have hj1 : (j : Int) < (c.length : Int) := by omega
            have hj0 : (0 : Int) ≤ (j : Int) := by omega
            have hd : decide ((j : Int) < (c.length : Int)) = true := by simp; omega
            clear hcw
            by_cases h8 : s.size = 8
            · have d8 : ((s.size : Int) != 8) = false := bne_eq_false_iff_eq.2 (by omega)
              have d8' : ((s.size : Int) == 8) = true := beq_iff_eq.2 (by omega)
              have HS8 := Aside0.mk h8
              have hsz8 : (8 : Int) ≤ (s.size : Int) := by omega
              clear h8
              go_wp2_with ((with_reducible refine gate_dst (N := 9) rfl ?_); refine box_event ?hg (N := 9) ?hd (cs := #[.int .i64 0, .int .i64 0]) (t := 25) ?hr ?_; (case hd => rfl); (case hg => rfl); (case hr => first | (go_simp; done) | (go_simp; rfl)); intro gf hg w5 hbox hb; have GF := Aside0.mk (Nat.le_trans (below_size HB.out) (Nat.le_of_eq hg.symm)); have GN : Aside0 (some gf ≠ (Value.slice E n e).ownBlock) := ⟨fun h_ => by have := own_ltF HO.out h_.symm; omega⟩; replace HO := Aside0.mk (Kd.R_far1 (Kd.R_below HO.out hb) rfl GN.out); replace HB := Aside0.mk (below_step HB.out hb); have BF := Aside0.mk hbox; clear hg hbox hb GN; have hz0 : _ = some (Value.int .i64 0) := (blk_cell BF.out 0).trans rfl; have hz1 : _ = some (Value.int .i64 0) := (blk_cell BF.out 1).trans rfl; have hf0 := blk_frozen BF.out 0; have hf1 := blk_frozen BF.out 1)
              go_loopw [48] (fun s48 wr => ∃ k : Nat, k ≤ 4 ∧ s48 = .int .i64 k ∧ Aside0 (wr.heap[gf]? = some (.cells #[.int .i64 (pg s 0 k), .int .i64 (pg s 4 k)] 25 (0, 0))) ∧ Aside0 (k25.R 25 wr w.heap.size (fun k_ => True ∧ k_ ≠ gf) (.slice E n e) (ofs ((l0.take i).flatten ++ c.take j))) ∧ Aside0 (Below w.heap.size w wr)) (fun s48 wr => 4 - (intOf s48).toNat)
              case atStart => exact ⟨0, by omega, rfl, ⟨blk_put (cs := #[.int .i64 0, .int .i64 0]) (blk_put (cs := #[.int .i64 0, .int .i64 0]) BF.out 0 _ rfl) 1 _ rfl⟩, ⟨Kd.R_far (Kd.R_far HO.out (fun k h => h.2) _) (fun k h => h.2) _⟩, ⟨below_set (below_set HB.out GF.out) GF.out⟩⟩
              case round =>
                clear BF HO HB hz0 hz1 hf0 hf1 hcell2
                obtain ⟨k, hk, rfl, BF, HO, HB⟩ := hrel
                by_cases hk4 : k < 4
                · have PB := pg_bd s 0 k (by omega)
                  have QB := pg_bd s 4 k (by omega)
                  have EP0 := Aside0.mk (pg_or s 0 k hk4)
                  have EQ0 := Aside0.mk (pg_or s 4 k hk4)
                  have EP := EP0
                  have EQ := EQ0
                  generalize pg s 0 k = p at *
                  generalize pg s 4 k = q at *
                  have hk0 : (0 : Int) ≤ (k : Int) := by omega
                  have hk8 : (k : Int) < (s.size : Int) := by omega
                  have hk8' : (4 : Int) + (k : Int) < (s.size : Int) := by omega
                  have hd4 : decide ((k : Int) < 4) = true := by simp; omega
                  have bk := bt_range s (0 + (k : Int))
                  have bk4 := bt_range s (4 + (k : Int))
                  obtain ⟨k4, hk4e⟩ : ∃ z, z = 4 + k := ⟨_, rfl⟩
                  have hw4 : IntKind.i64.wrap ((4 : Int) + (k : Int)) = (k4 : Int) := by rw [i64_w]; unfold Go.RowKit.wrap64; omega
                  have hsk : k < s.size := by omega
                  have hsk4 : k4 < s.size := by omega
                  have hsk4' : (k4 : Int) < (s.size : Int) := by omega
                  have hbk : ((s[k]'hsk).toNat : Int) = bt s (0 + (k : Int)) := by rw [Int.zero_add]; exact bt_byte s k hsk
                  have hbk4 : ((s[k4]'hsk4).toNat : Int) = bt s (4 + (k : Int)) := by rw [show (4 : Int) + (k : Int) = (k4 : Int) by omega]; exact bt_byte s k4 hsk4
                  clear hk4e
                  generalize bt s (0 + (k : Int)) = b at *
                  generalize bt s (4 + (k : Int)) = b4 at *
                  clear EP0 EQ0
                  go_upto_region 16 with (fail)
                  have BF1 := Aside0.mk (blk_drew BF.out)
                  have HB1 := Aside0.mk (below_drew1 HB.out)
                  have HO1 := Aside0.mk (Kd.R_drew HO.out)
                  clear BF HB HO
                  have BF := BF1; have HB := HB1; have HO := HO1; clear BF1 HB1 HO1
                  have HS := Aside0.mk (And.intro ((blk_cell BF.out 0).trans rfl : _ = some (Value.int .i64 p)) ((blk_cell BF.out 1).trans rfl : _ = some (Value.int .i64 q)))
                  refine wp_region_P (fun w' => w'.cell? ⟨gf, 0, none⟩ = some (.int .i64 p) ∧ w'.cell? ⟨gf, 1, none⟩ = some (.int .i64 q)) 18 (by kernel_rfl) ?_
                  generalize wr.drew = w5 at *
                  refine wpAnyP_take 0 (oi := o22_16_0) (v := ?_) rfl (by kernel_rfl) (fun _ _ _ h => h) (by rfl) HS.out ?_ ?_; rotate_left
                  · intro w_ hSw; obtain ⟨hs0, hs1⟩ := hSw; (try simp only [o22_16_0]); first | (go_simp; done) | (go_simp; with_reducible rfl)
                  try simp only [Act.put, o22_16_0, List.setIfInBounds_toArray, List.set_cons_zero, List.set_cons_succ]
                  refine wpAnyP_take 1 (oi := o22_16_1) (v := ?_) rfl (by kernel_rfl) (fun _ _ _ h => h) (by rfl) HS.out ?_ ?_; rotate_left
                  · intro w_ hSw; obtain ⟨hs0, hs1⟩ := hSw; (try simp only [o22_16_1]); first | (go_simp; done) | (go_simp; with_reducible rfl)
                  try simp only [Act.put, o22_16_1, List.setIfInBounds_toArray, List.set_cons_zero, List.set_cons_succ]
                  refine wpAnyP_take 2 (oi := o22_16_2) (v := ?_) rfl (by kernel_rfl) (fun _ _ _ h => h) (by rfl) HS.out ?_ ?_; rotate_left
                  · intro w_ hSw; obtain ⟨hs0, hs1⟩ := hSw; (try simp only [o22_16_2]); first | (go_simp; done) | (go_simp; with_reducible rfl)
                  try simp only [Act.put, o22_16_2, List.setIfInBounds_toArray, List.set_cons_zero, List.set_cons_succ]
                  refine wpAnyP_take 3 (oi := o22_16_3) (v := ?_) rfl (by kernel_rfl) (fun _ _ _ h => h) (by rfl) HS.out ?_ ?_; rotate_left
                  · intro w_ hSw; obtain ⟨hs0, hs1⟩ := hSw; (try simp only [o22_16_3]); first | (go_simp; done) | (go_simp; with_reducible rfl)
                  try simp only [Act.put, o22_16_3, List.setIfInBounds_toArray, List.set_cons_zero, List.set_cons_succ]
                  refine wpAnyP_take 4 (oi := o22_16_4) (v := ?_) rfl (by kernel_rfl) (fun _ _ _ h => h) (by rfl) HS.out ?_ ?_; rotate_left
                  · intro w_ hSw; obtain ⟨hs0, hs1⟩ := hSw; (try simp only [o22_16_4]); first | (go_simp; done) | (go_simp; with_reducible rfl)
                  try simp only [Act.put, o22_16_4, List.setIfInBounds_toArray, List.set_cons_zero, List.set_cons_succ]
                  refine wpAnyP_take 5 (oi := o22_16_5) (v := ?_) rfl (by kernel_rfl) (fun _ _ _ h => h) (by rfl) HS.out ?_ ?_; rotate_left
                  · intro w_ hSw; obtain ⟨hs0, hs1⟩ := hSw; (try simp only [o22_16_5]); first | (go_simp; done) | (go_simp; with_reducible rfl)
                  try simp only [Act.put, o22_16_5, List.setIfInBounds_toArray, List.set_cons_zero, List.set_cons_succ]
                  refine wpAnyP_take 6 (oi := o22_16_6) (v := ?_) rfl (by kernel_rfl) (fun _ _ _ h => h) (by rfl) HS.out ?_ ?_; rotate_left
                  · intro w_ hSw; obtain ⟨hs0, hs1⟩ := hSw; (try simp only [o22_16_6]); first | (go_simp; done) | (go_simp; with_reducible rfl)
                  try simp only [Act.put, o22_16_6, List.setIfInBounds_toArray, List.set_cons_zero, List.set_cons_succ]
                  refine wpAnyP_take 7 (oi := o22_16_7) (v := ?_) rfl (by kernel_rfl) (fun _ _ _ h => h) (by rfl) HS.out ?_ ?_; rotate_left
                  · intro w_ hSw; obtain ⟨hs0, hs1⟩ := hSw; (try simp only [o22_16_7]); first | (go_simp; done) | (go_simp; with_reducible rfl)
                  try simp only [Act.put, o22_16_7, List.setIfInBounds_toArray, List.set_cons_zero, List.set_cons_succ]
                  refine wpAnyP_take 8 (oi := o22_16_8) (v := ?_) rfl (by kernel_rfl) (fun _ _ _ h => h) (by rfl) HS.out ?_ ?_; rotate_left
                  · intro w_ hSw; obtain ⟨hs0, hs1⟩ := hSw; (try simp only [o22_16_8]); first | (go_simp; done) | (go_simp; with_reducible rfl)
                  try simp only [Act.put, o22_16_8, List.setIfInBounds_toArray, List.set_cons_zero, List.set_cons_succ]
                  refine wpAnyP_take 9 (oi := o22_16_9) (v := ?_) rfl (by kernel_rfl) (fun _ _ _ h => h) (by rfl) HS.out ?_ ?_; rotate_left
                  · intro w_ hSw; obtain ⟨hs0, hs1⟩ := hSw; (try simp only [o22_16_9]); first | (go_simp; done) | (go_simp; with_reducible rfl)
                  try simp only [Act.put, o22_16_9, List.setIfInBounds_toArray, List.set_cons_zero, List.set_cons_succ]
                  refine wpAnyP_take 17 (oi := o22_16_17) (v := ?_) rfl (by kernel_rfl) (fun _ _ _ h => h) (by rfl) HS.out ?_ ?_; rotate_left
                  · intro w_ hSw; obtain ⟨hs0, hs1⟩ := hSw; (try simp only [o22_16_17]); first | (go_simp; done) | (go_simp; with_reducible rfl)
                  try simp only [Act.put, o22_16_17, List.setIfInBounds_toArray, List.set_cons_zero, List.set_cons_succ]
                  refine wpAnyP_takeW 10 (oi := o22_16_10) (v := ?_) rfl (by kernel_rfl) (fun _ _ _ h => h) (by rfl) (fun _ => HS.out) ?_ ?_; rotate_left
                  · intro w_; (try simp only [o22_16_10]); first | (go_simp; done) | (go_simp; with_reducible rfl)
                  try simp only [Act.put, o22_16_10, List.setIfInBounds_toArray, List.set_cons_zero, List.set_cons_succ]
                  refine wpAnyP_takeW 11 (oi := o22_16_11) (v := ?_) rfl (by kernel_rfl) (fun _ _ _ h => h) (by rfl) (fun _ => HS.out) ?_ ?_; rotate_left
                  · intro w_; (try simp only [o22_16_11]); first | (go_simp; done) | (go_simp; with_reducible rfl)
                  try simp only [Act.put, o22_16_11, List.setIfInBounds_toArray, List.set_cons_zero, List.set_cons_succ]
                  refine wpAnyP_takeW 12 (oi := o22_16_12) (v := ?_) rfl (by kernel_rfl) (fun _ _ _ h => h) (by rfl) (fun _ => HS.out) ?_ ?_; rotate_left
                  · intro w_; (try simp only [o22_16_12]); first | (go_simp; done) | (go_simp; with_reducible rfl)
                  try simp only [Act.put, o22_16_12, List.setIfInBounds_toArray, List.set_cons_zero, List.set_cons_succ]
                  refine wpAnyP_takeW 13 (oi := o22_16_13) (v := ?_) rfl (by kernel_rfl) (fun _ _ _ h => h) (by rfl) (fun _ => HS.out) ?_ ?_; rotate_left
                  · intro w_; (try simp only [o22_16_13]); first | (go_simp; done) | (go_simp; with_reducible rfl)
                  try simp only [Act.put, o22_16_13, List.setIfInBounds_toArray, List.set_cons_zero, List.set_cons_succ]
                  refine wpAnyP_takeW 14 (oi := o22_16_14) (v := ?_) rfl (by kernel_rfl) (fun _ _ _ h => h) (by rfl) (fun _ => HS.out) ?_ ?_; rotate_left
                  · intro w_; (try simp only [o22_16_14]); first | (go_simp; done) | (go_simp; with_reducible rfl)
                  try simp only [Act.put, o22_16_14, List.setIfInBounds_toArray, List.set_cons_zero, List.set_cons_succ]
                  refine wpAnyP_takeW 15 (oi := o22_16_15) (v := ?_) rfl (by kernel_rfl) (fun _ _ _ h => h) (by rfl) (fun _ => HS.out) ?_ ?_; rotate_left
                  · intro w_; (try simp only [o22_16_15]); first | (go_simp; done) | (go_simp; with_reducible rfl)
                  try simp only [Act.put, o22_16_15, List.setIfInBounds_toArray, List.set_cons_zero, List.set_cons_succ]
                  refine wpAnyP_takeW 16 (oi := o22_16_16) (v := ?_) rfl (by kernel_rfl) (fun _ _ _ h => h) (by rfl) (fun _ => HS.out) ?_ ?_; rotate_left
                  · intro w_; (try simp only [o22_16_16]); first | (go_simp; done) | (go_simp; with_reducible rfl)
                  try simp only [Act.put, o22_16_16, List.setIfInBounds_toArray, List.set_cons_zero, List.set_cons_succ]
                  have hf0 := blk_frozen BF.out 0
                  have hf1 := blk_frozen BF.out 1
                  have hc0 := HS.out.1
                  have hc1 := HS.out.2
                  refine wpAnyP_one 18 (o := o22_16_18) rfl (by kernel_rfl) (by rfl) (fun K hK => ?_)
                  have HK := Aside0.mk hK
                  clear hK
                  try simp only [o22_16_18]
                  go_simp
                  refine HK.out _ _ (fun h_ => absurd h_ (by decide)) ?_
                  clear HK K
                  try simp only [Act.put, o22_16_18, List.setIfInBounds_toArray, List.set_cons_zero, List.set_cons_succ]
                  refine wpAnyP_one 19 (o := o22_16_19) rfl (by kernel_rfl) (by rfl) (fun K hK => ?_)
                  have HK := Aside0.mk hK
                  clear hK
                  try simp only [o22_16_19]
                  go_simp
                  refine HK.out _ _ (fun h_ => absurd h_ (by decide)) ?_
                  clear HK K
                  try simp only [Act.put, o22_16_19, List.setIfInBounds_toArray, List.set_cons_zero, List.set_cons_succ]
                  refine wpAnyP_one 20 (o := o22_16_20) rfl (by kernel_rfl) (by rfl) (fun K hK => ?_)
                  have HK := Aside0.mk hK
                  clear hK
                  try simp only [o22_16_20]
                  go_simp
                  refine HK.out _ _ (fun h_ => absurd h_ (by decide)) ?_
                  clear HK K
                  try simp only [Act.put, o22_16_20, List.setIfInBounds_toArray, List.set_cons_zero, List.set_cons_succ]
                  refine wpAnyP_done (by kernel_rfl) ?_ _
                  clear HS hf0 hf1 hc0 hc1
                  have BF2 := Aside0.mk (blk_put (cs := #[.int .i64 (Go.bits .or .i64 (p * 256) b), .int .i64 q]) (cs' := #[.int .i64 (Go.bits .or .i64 (p * 256) b), .int .i64 (Go.bits .or .i64 (q * 256) b4)]) (blk_put (cs := #[.int .i64 p, .int .i64 q]) BF.out 0 (.int .i64 (Go.bits .or .i64 (p * 256) b)) rfl) 1 (.int .i64 (Go.bits .or .i64 (q * 256) b4)) rfl)
                  have HO2 := Aside0.mk (Kd.R_far (Kd.R_far HO.out (p := ⟨gf, 0, none⟩) (fun k h => h.2) (.int .i64 (Go.bits .or .i64 (p * 256) b))) (p := ⟨gf, 1, none⟩) (fun k h => h.2) (.int .i64 (Go.bits .or .i64 (q * 256) b4)))
                  have HB2 := Aside0.mk (below_set (j := 1) (v := .int .i64 (Go.bits .or .i64 (q * 256) b4)) (below_set (j := 0) (v := .int .i64 (Go.bits .or .i64 (p * 256) b)) HB.out GF.out) GF.out)
                  clear BF HO HB
                  go_wp2
                  go_roundw
                  case rel => exact ⟨k + 1, by omega, by go_num, ⟨by rw [← EP.out, ← EQ.out]; exact BF2.out⟩, HO2, HB2⟩
                  case measure => simp [intOf]; omega
                · obtain rfl : k = 4 := by omega
                  have hd4 : decide (((4 : Nat) : Int) < 4) = false := by simp
                  have hz0 : _ = some (Value.int .i64 (pg s 0 4)) := (blk_cell BF.out 0).trans rfl
                  have hz1 : _ = some (Value.int .i64 (pg s 4 4)) := (blk_cell BF.out 1).trans rfl
                  have hlen : (ofs ((l0.take i).flatten ++ c.take j)).length ≤ 20000000000 := by
                    rw [ofs, List.length_map, List.length_append, flat_len, List.length_take]
                    have := HT.out i (by omega)
                    omega
                  have HE := Aside0.mk (cells_snoc (l0.take i).flatten c j s hs2.out)
                  go_wp2_with (at_builtin; refine Kd.R_append_rows k25 (w0 := w) w.heap.size rfl (.tmp 71) (.tmp 73) 22 25 (.agg #[.int .i64 0, .int .i64 0]) 16 rfl Try.underlying22 info25 rfl (by decide) (by omega) (.slice E n e) (ofs ((l0.take i).flatten ++ c.take j)) [⟨pg s 0 4, pg s 4 4⟩] _ _ _ (fun _ => True) (fun _ => False) rfl rfl (Kd.R_alloc (Kd.R_mono HO.out (fun _ _ => trivial)) _) (C_fr1 (blk_new _ _)) (fun _ _ h => h) (fun _ h => h.elim) (fun _ _ => trivial) (below_alloc HB.out _) (below_size (below_alloc HB.out _)) (by omega) ?_)
                  intro v1 w1 ho hb hg hat
                  obtain ⟨E1, n1, e1⟩ := Kd.R_slice ho
                  subst e1
                  have HO2 := Aside0.mk ho
                  have HB2 := Aside0.mk hb
                  clear ho hb hg hat hz0 hz1 BF HO HB
                  go_wp2
                  go_roundw
                  case rel => exact ⟨j + 1, E1, _, n1, by omega, by go_num, rfl, ⟨by rw [HE.out, ofCell_pg]; exact HO2.out⟩, HB2, ⟨fun t ht => by rw [List.take_add_one, hs2.out] at ht; simp at ht; rcases ht with ht | rfl; exact H8.out t ht; exact HS8.out⟩⟩
                  case measure => simp [intOf]; omega
            · have HN := Aside0.mk (shapeF_no hs.out (fun h_ => h8 (h_.2 s (by obtain ⟨hh, he⟩ := List.getElem?_eq_some_iff.1 hs2.out; rw [← he]; exact List.getElem_mem _))))
              have d8 : ((s.size : Int) != 8) = true := bne_iff_ne.2 (by omega)
              have d8' : ((s.size : Int) == 8) = false := beq_eq_false_iff_ne.2 (by omega)
              clear h8
              have HR2 := HR.out
              rw [if_neg (by rw [HN.out]; simp)] at HR2
              simp only [Prod.mk.injEq] at HR2
              obtain ⟨rfl, rfl⟩ := HR2
              clear HR
              go_wp2
              go_ret2
              exact ⟨_, rfl, Kd.V_nil _ _ _ _ _, HB.out⟩
          · obtain rfl : j = c.length := by omega
            have hd : decide ((c.length : Int) < (c.length : Int)) = false := by simp
            go_wp2
            go_roundw
            case rel => exact ⟨i + 1, E, n, e, by omega, by go_num, rfl, ⟨by rw [flat_succ l0 i c hs.out]; have := HO.out; rwa [List.take_length] at this⟩, HB, ⟨fun j' c' hj' hc' => by
              rcases Nat.lt_or_ge j' i with hlt | hge
              · exact HK.out j' c' hlt hc'
              · obtain rfl : j' = i := by omega
                have hcc := hs.out
                rw [hc'] at hcc
                obtain rfl := Option.some.inj hcc
                exact ⟨HROW.out, fun t ht => H8.out t (by rw [List.take_length]; exact ht)⟩⟩⟩
            case measure => simp [intOf]; omega
    · obtain rfl : i = l0.length := by omega
      have hd : decide ((l0.length : Int) < (l0.length : Int)) = false := by simp
      have HS := (shapeF_iff l0).2 (fun j c hc => HK.out j c (List.getElem?_eq_some_iff.1 hc).1 hc)
      rw [HS] at HR
      rw [List.take_length] at HO
      clear HS HK
      have hlen : (ofs l0.flatten).length ≤ 20000000000 := by
        have h1 := flat_len l0 l0.length
        rw [List.take_length] at h1
        rw [ofs, List.length_map, h1]
        have := HT.out l0.length (Nat.le_refl _)
        omega
      obtain ⟨kc, hkc⟩ := (fcheck_ev (ofs l0.flatten) (by omega)).rounds
      obtain ⟨e1, e2, e3⟩ := Kd.V_reads' (Kd.R_V (base' := w.heap.size) HO.out)
      have HC := Aside0.mk (free_Check.calls kc E e (ofs l0.flatten) _ _ e3 (by omega) hkc)
      rw [← e1] at HC
      clear hkc e1 e2 e3 hlen
      go_wp2_with fail
      refine HC.out.mono ?_
      rintro e' w1 ⟨rfl, hb⟩
      have HO1 := Aside0.mk (Kd.R_below HO.out hb)
      have HB1 := Aside0.mk (below_step HB.out hb)
      clear HC HO HB hb
      have HR2 := HR.out
      cases hch : chkF (ofs l0.flatten) with
      | true =>
        rw [hch] at HR2
        simp only [Bool.and_self, if_true, Prod.mk.injEq] at HR2
        obtain ⟨rfl, rfl⟩ := HR2
        clear HR
        go_wp2
        go_ret2
        exact ⟨_, rfl, Kd.V_lower (Kd.V_mono (R_toV HO1.out) (fun _ h => h)) (Nat.le_refl _), HB1.out⟩
      | false =>
        rw [hch] at HR2
        simp only [Bool.and_false, Bool.false_eq_true, if_false, Prod.mk.injEq] at HR2
        obtain ⟨rfl, rfl⟩ := HR2
        clear HR
        go_wp2
        go_ret2
        exact ⟨_, rfl, Kd.V_nil _ _ _ _ _, HB1.out⟩
end Go.Proofs.Ytmplcceghjofhaa.PF
