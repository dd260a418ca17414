/- free.Cells -/
import Derived.Test.YtmplcceghjofhaaHCells16
namespace Go.Proofs.Ytmplcceghjofhaa.PF
open Go.RowKit Go.Shelf Go.Proofs.YtmplcceghjofhaaW.PrintWords Go.Proofs.YtmplcceghjofhaaW.PrintLast Go.Proofs.YtmplcceghjofhaaW.PrintMore
set_option linter.unusedVariables false
set_option linter.unusedSimpArgs false
attribute [local go_sem] Oper.semAt_some
theorem add_addX (a : Addr) (x y : Nat) : (a.add x).add y = a.add (x + y) := by
  unfold Addr.add
  by_cases hx : x = 0 <;> by_cases hy : y = 0 <;> simp [hx, hy, Nat.add_assoc]
theorem made8 : madeCells (Value.int .u8 0).cells 8 = #[.int .u8 0, .int .u8 0, .int .u8 0, .int .u8 0, .int .u8 0, .int .u8 0, .int .u8 0, .int .u8 0] := by kernel_rfl
theorem make8 (W : World) : (Instr.makeSlice 57 (.int .i64 8) (.int .i64 8)).run Try.prog W = .ok (.slice (some ⟨W.heap.size, 0, none⟩) 8 8) (W.alloc (.cells #[.int .u8 0, .int .u8 0, .int .u8 0, .int .u8 0, .int .u8 0, .int .u8 0, .int .u8 0, .int .u8 0] 5 (0, 0))) := by
  obtain ⟨i0, hi, hz0, hz1, hz2⟩ := info_parts info5
  have h := run_makeSlice (P := Try.prog) W 57 5 i0 (.int .u8 0) Try.underlying57 hi hz0 .i64 .i64 8 8 (by decide) (by decide) (by rw [hz1]; decide) (by rw [hz2]; decide) (by decide)
  rw [h, hz1, show Int.toNat 8 * 1 = 8 from rfl, made8]
  rfl
/-- The j-th chunk's cells. -/
def chF (l : List S25) (j : Nat) : List ByteArray := ((l.drop (23 * j)).take 23).map cellF
theorem upto_vals (l : List S25) (N : Nat) : ∀ (k : Nat) (h : k ≤ N), (upto N k h).map (fun x : Ch N => chF l x.1) = (List.range k).map (chF l)
  | 0, _ => rfl
  | k + 1, h => by unfold upto; rw [List.map_append, upto_vals l N k (by omega), List.range_succ, List.map_append]; rfl
theorem cells_upto (l : List S25) : (upto (nCh l.length) (nCh l.length) (Nat.le_refl _)).map (fun x : Ch (nCh l.length) => chF l x.1) = cellsF l := by
  rw [upto_vals]; rfl
/-- A row stands behind the turn of a block that is no cells. -/
theorem R_other {α : Type} {d : Kd α} {e base : Nat} {ok : Nat → Prop} {W W' : World} {v : Value} {xs : List α} (h : d.R e W base ok v xs) {row : Option Nat} (hg : W.grownBy W' row)
    (hr : ∀ r, row = some r → ∃ o : Obj, W.heap[r]? = some o ∧ o.isCells = false) : d.R e W' base ok v xs :=
  Kd.R_mono (Kd.R_move (Kd.R_bound h) (fun k hk => hg.block k hk.2.2.1 (fun e' => by
    obtain ⟨o, ho, hc⟩ := hr k e'.symm
    obtain ⟨q, _, cells, hcc⟩ := hk.2.2.2
    rw [hcc] at ho
    cases ho
    cases hc))) (fun _ hk => hk.1)
/-- What stands between two rounds: out, in its box. -/
def CellsI (l0 : List S25) (w : World) (G gs gn : Nat) (pre : List (Ch (nCh l0.length))) (W : World) : Prop :=
  (∃ (E : Option Addr) (n e : Nat), Boxed W G 33 (.slice E n e) ∧ Kd.R (Kd.slice 9 Kd.string) 39 W w.heap.size (fun k => k ≠ G ∧ k ≠ gs ∧ k ≠ gn) (.slice E n e) (pre.map (fun x => chF l0 x.1))) ∧ Below w.heap.size w W ∧ gs < W.heap.size ∧ gn < W.heap.size
theorem chF_len (l : List S25) (j : Nat) : (chF l j).length = min 23 (l.length - 23 * j) := by simp [chF]
theorem chF_at {l : List S25} {j i : Nat} {x : S25} (h : l[23 * j + i]? = some x) (hi : i < 23) : (chF l j).take (i + 1) = (chF l j).take i ++ [cellF x] := by
  rw [List.take_add_one]
  congr 1
  simp [chF, List.getElem?_take, hi, List.getElem?_drop, h]
theorem others_below {W W' : World} (h : Below W.heap.size W W') : KeepsOthers W W' := ⟨h.size, fun k o ho hk => (h.block k (Array.getElem?_eq_some_iff.1 ho).1).trans ho⟩
theorem cellsI_own (l0 : List S25) (w : World) (G gs gn B : Nat) (hB : w.heap.size ≤ B) : OwnFrom B (CellsI l0 w G gs gn) := by
  rintro s X Y row ⟨⟨E, n, e, hb, hr⟩, hB', hl1, hl2⟩ hg hrow
  refine ⟨⟨E, n, e, hb.kept hg (fun e' => ?_), R_other hr hg (fun r e' => (hrow r e').2)⟩, hB'.grown hg hB'.size (fun k e' => by have := (hrow k e').1; omega), Nat.lt_of_lt_of_le hl1 hg.size, Nat.lt_of_lt_of_le hl2 hg.size⟩
  obtain ⟨_, o, ho, hc⟩ := hrow G e'.symm
  rw [show X.heap[G]? = _ from hb] at ho; cases ho; cases hc
theorem chk_fit {l : List S25} (h : chkF l = true) {k : Nat} {x : S25} (hx : l[k]? = some x) : fit x = true := by
  have hk := (List.getElem?_eq_some_iff.1 hx).1
  have h1 := (chkF_iff l).1 h k hk
  unfold okB at h1
  rw [Bool.and_eq_true] at h1
  have h2 := h1.1
  rw [List.getD_eq_getElem?_getD, hx] at h2
  exact h2
set_option maxHeartbeats 4000000 in
set_option maxRecDepth 100000 in
theorem free_Cells.calls (A0 : Option Addr) (c0 : Nat) (l0 : List (S25)) (r1 : List (List ByteArray)) (r2 : Int) (w : World) (hr0 : Kd.C k25 w A0 l0.length l0) (hc0 : l0.length ≤ c0) (h : free_Cells.f l0 = some (r1, r2)) :
    Calls Try.prog 19 #[.slice A0 l0.length c0] w fun e w' => ∃ v0_ : Value, e = .returned (.tuple #[v0_, .int .i64 r2]) ∧ Kd.V (Kd.slice 9 Kd.string) 39 w' w.heap.size (fun k_ => (w.heap.size ≤ k_)) v0_ r1 ∧ Below w.heap.size w w' := by
  unfold free_Cells.f at h
  split at h
  case isFalse => cases h
  rename_i hl
  have HR := Aside0.mk (Option.some.inj h)
  have H0 := Aside0.mk hr0
  clear h hr0
  obtain ⟨kc, hkc⟩ := (fcheck_ev l0 (by omega)).rounds
  have HC := Aside0.mk (free_Check.calls kc A0 c0 l0 _ _ H0.out (by omega) hkc)
  clear hkc
  refine (callsIn_wide (n := 8)).1 ?_
  refine callsIn_of_wp_marks Try.func19 rfl trivial ?_ rfl
  simp only [Try.ntmps19, List.size_toArray, List.length_cons, List.length_nil, Nat.reduceAdd, Nat.reduceSub, Array.replicate_succ, Array.replicate_zero, List.push_toArray, List.append_toArray, List.nil_append, List.cons_append]
  have HR2 := HR.out
  clear HR
  cases hch : chkF l0 with
  | false =>
    rw [hch] at HR2 HC
    simp only [Bool.false_eq_true, if_false, Prod.mk.injEq] at HR2
    obtain ⟨rfl, rfl⟩ := HR2
    gi_wp2_with (refine ⟨trivial, ?_⟩; gi_at_call 12; refine (callsIn_wide.2 HC.out).mono ?_; rintro e w1 ⟨rfl, hb1⟩)
    exact ⟨_, results_tmp2 rfl _ _ _, _, rfl, Kd.V_nil _ _ _ _ _, hb1⟩
  | true =>
    rw [hch] at HR2 HC
    simp only [if_true, Prod.mk.injEq] at HR2
    obtain ⟨rfl, rfl⟩ := HR2
    gi_wp2_with (first | (refine ⟨trivial, ?_⟩; gi_at_call 12; refine (callsIn_wide.2 HC.out).mono ?_; rintro e w1 ⟨rfl, hb1⟩) | (refine ⟨trivial, ?_⟩; gi_at_call 29; refine (callsIn_wide.2 (chunk29 A0 l0.length c0 _)).mono ?_; rintro e w2 ⟨gs, gn, rfl, HS, HN, HG, HB2⟩))
    have bO : Boxed w2 w1.heap.size 33 (.slice none 0 0) := (HB2.out.block _ (by simp)).trans (Boxed.new w1 33 (.slice none 0 0))
    have HBW : Aside0 (Below w.heap.size w w2) := ⟨hb1.trans ((((Below.refl _ w1).alloc (Nat.le_refl _) _).trans (HB2.out.mono (by simp))).mono hb1.size)⟩
    have hwsz : w.heap.size ≤ w1.heap.size := hb1.size
    have hG2 : w1.heap.size < w2.heap.size := bO.lt
    have hgs2 : gs < w2.heap.size := (Array.getElem?_eq_some_iff.1 HS.out).1
    have hgn2 : gn < w2.heap.size := (Array.getElem?_eq_some_iff.1 HN.out).1
    have hgsG : w1.heap.size < gs := by have := HG.out.1; simp at this; omega
    have hgsn : gs < gn := HG.out.2
    refine wpIn_rangeFunc_ownF (F := Fence.wide) rfl (by decide) (gf := 32) (lb := #[.pointer (some ⟨gs, 0, none⟩), .pointer (some ⟨gn, 0, none⟩)]) rfl trivial (enters_of Try.func32 (by kernel_rfl) rfl)
      (chunks_stops _ (by decide) gs gn A0 l0.length c0 hl hc0 w2 HS.out HN.out) KpC.trans (fun W l _ o' hl_ _ _ _ => KpC.put W l o' (by omega) (by omega)) (Below.refl _ _) (fun _ => rfl)
      (CellsI l0 w w1.heap.size gs gn) (fun _ _ _ => False) (cellsI_own l0 w _ _ _ _ (by omega)) (fun _ _ _ _ _ hs _ _ => hs)
      ⟨⟨none, 0, 0, bO, Kd.R_nil _ _ _ _ _⟩, HBW.out, hgs2, hgn2⟩
      (fun x => { tmps := #[.slice A0 l0.length c0, undef, .slice none 0 0, .int .i64 0, .pointer (some ⟨w1.heap.size, 0, none⟩), encC A0 l0.length x.1, undef, undef, undef, undef, undef, .slice A0 l0.length c0, .bool true, .bool !true, .slice A0 l0.length c0, .func (.func 32) #[] #[.pointer (some ⟨gs, 0, none⟩), .pointer (some ⟨gn, 0, none⟩)], encC A0 l0.length x.1, undef, undef, undef, undef, undef, undef, undef, undef, undef, undef, undef, undef, undef, undef, undef, undef, undef, undef, undef, undef, undef, undef, undef, undef, undef, undef, undef, undef, undef, undef, undef, undef, undef, undef, undef, undef, undef, undef, undef, undef, undef, undef, undef, undef, undef], defers := [] }) ?assign ?body ?done ?stop
    case assign =>
      intro l x W K hK
      gi_wp2
      exact hK
    case body =>
      rintro l pre ⟨j, hj⟩ W ⟨⟨E, n, e, hbx, hR⟩, hB, hW1, hW2⟩ hlt
      unfold encC
      dsimp only
      have hu22 := Try.underlying22
      have hu25 := Try.underlying25
      obtain ⟨m, hm⟩ : ∃ m, min 23 (l0.length - 23 * j) = m := ⟨_, rfl⟩
      rw [hm]
      have hjl : 23 * j + m ≤ l0.length := by unfold nCh at hj; omega
      have hm23 : m ≤ 23 := by omega
      have BX := Aside0.mk hbx
      have RO := Aside0.mk hR
      have BW := Aside0.mk hB
      clear hbx hR hB
      gi_wp2
      gi_loopw [6, 19] (fun s6 s19 wr => ∃ (i : Nat) (F6 : Option Addr) (n6 e6 : Nat), i ≤ m ∧ s19 = .int .i64 i ∧ s6 = .slice F6 n6 e6 ∧ Aside0 (Kd.string.R 9 wr W.heap.size (fun _ => True) (.slice F6 n6 e6) ((chF l0 j).take i)) ∧ Aside0 (Below W.heap.size W wr)) (fun s6 s19 wr => m - (intOf s19).toNat)
      case atStart => exact ⟨0, none, 0, 0, Nat.zero_le _, rfl, rfl, ⟨Kd.R_nil _ _ _ _ _⟩, ⟨Below.refl _ _⟩⟩
      case round =>
        obtain ⟨i, F6, n6, e6, hi, rfl, rfl, HO, HB⟩ := hrel
        by_cases him : i < m
        · obtain ⟨ad, x, rfl, hs, hx0, hx1⟩ := fr_at (Kd.C_below H0.out (BW.out.trans (HB.out.mono BW.out.size))) (23 * j + i) (by omega)
          have hi1 : (i : Int) < (m : Int) := by omega
          have hi0 : (0 : Int) ≤ (i : Int) := by omega
          have hd : decide ((i : Int) < (m : Int)) = true := by simp; omega
          have hy0 : wr.cell? ((ad.add (23 * j * 2)).add (i * 2)) = some (.int .i64 x.f0) := by rw [← hx0, add_addX]; congr 2; omega
          have hy1 : wr.cell? ⟨((ad.add (23 * j * 2)).add (i * 2)).block, ((ad.add (23 * j * 2)).add (i * 2)).off + 1, none⟩ = some (.int .i64 x.f1) := by rw [← hx1, add_addX, show 23 * j * 2 + i * 2 = (23 * j + i) * 2 by omega]
          have hmk := make8
          clear hx0 hx1
          gi_wp2
          have HX := Aside0.mk (And.intro hs.out (chk_fit hch hs.out))
          obtain ⟨gf, hgf⟩ : ∃ z, wr.heap.size = z := ⟨_, rfl⟩
          rw [hgf]
          obtain ⟨gb, hgb⟩ : ∃ z, gf + 1 = z := ⟨_, rfl⟩
          rw [hgb]
          have hne : gf ≠ gb := by omega
          have hne2 : gb ≠ gf := by omega
          have GF : Aside0 (W.heap.size ≤ gf) := ⟨by rw [← hgf]; exact HB.out.size⟩
          have GB : Aside0 (W.heap.size ≤ gb) := ⟨by have := GF.out; omega⟩
          have BF : Aside0 (((wr.alloc (Obj.cells #[Value.int IntKind.i64 x.f0, Value.int IntKind.i64 x.f1] 25)).alloc (Obj.cells #[.int .u8 0, .int .u8 0, .int .u8 0, .int .u8 0, .int .u8 0, .int .u8 0, .int .u8 0, .int .u8 0] 5)).heap[gf]? = some (.cells #[Value.int IntKind.i64 x.f0, Value.int IntKind.i64 x.f1] 25 (0, 0))) := ⟨by
            rw [← hgf]; exact (Below.heap_alloc _ _ _ (by simp)).trans (World.alloc_heap_new wr _)⟩
          have BG : Aside0 (((wr.alloc (Obj.cells #[Value.int IntKind.i64 x.f0, Value.int IntKind.i64 x.f1] 25)).alloc (Obj.cells #[.int .u8 0, .int .u8 0, .int .u8 0, .int .u8 0, .int .u8 0, .int .u8 0, .int .u8 0, .int .u8 0] 5)).heap[gb]? = some (.cells (bArr x 0) 5 (0, 0))) := ⟨by
            rw [← hgb, ← hgf]; have h_ := World.alloc_heap_new (wr.alloc (Obj.cells #[Value.int IntKind.i64 x.f0, Value.int IntKind.i64 x.f1] 25)) (Obj.cells #[.int .u8 0, .int .u8 0, .int .u8 0, .int .u8 0, .int .u8 0, .int .u8 0, .int .u8 0, .int .u8 0] 5); rw [World.size_alloc] at h_; exact h_⟩
          have HO5 := Aside0.mk (Kd.R_alloc (Kd.R_alloc (Kd.R_mono (Kd.R_bound HO.out) (fun k_ hk_ => (⟨by have := hk_.2.2.1; omega, by have := hk_.2.2.1; omega⟩ : k_ ≠ gf ∧ k_ ≠ gb))) (Obj.cells #[Value.int IntKind.i64 x.f0, Value.int IntKind.i64 x.f1] 25)) (Obj.cells #[.int .u8 0, .int .u8 0, .int .u8 0, .int .u8 0, .int .u8 0, .int .u8 0, .int .u8 0, .int .u8 0] 5))
          have HB5 := Aside0.mk (below_alloc (below_alloc HB.out (Obj.cells #[Value.int IntKind.i64 x.f0, Value.int IntKind.i64 x.f1] 25)) (Obj.cells #[.int .u8 0, .int .u8 0, .int .u8 0, .int .u8 0, .int .u8 0, .int .u8 0, .int .u8 0, .int .u8 0] 5))
          generalize (wr.alloc (Obj.cells #[Value.int IntKind.i64 x.f0, Value.int IntKind.i64 x.f1] 25)).alloc (Obj.cells #[.int .u8 0, .int .u8 0, .int .u8 0, .int .u8 0, .int .u8 0, .int .u8 0, .int .u8 0, .int .u8 0] 5) = w5 at *
          clear HO HB hgb hgf hy0 hy1
          gi_loopw [24] (fun s24 wr => ∃ (k : Nat), k ≤ 4 ∧ s24 = .int .i64 k ∧ Aside0 (wr.heap[gf]? = some (.cells #[Value.int IntKind.i64 x.f0, Value.int IntKind.i64 x.f1] 25 (0, 0))) ∧ Aside0 (wr.heap[gb]? = some (.cells (bArr x k) 5 (0, 0))) ∧ Aside0 (Kd.string.R 9 wr W.heap.size (fun k_ => k_ ≠ gf ∧ k_ ≠ gb) (.slice F6 n6 e6) ((chF l0 j).take i)) ∧ Aside0 (Below W.heap.size W wr)) (fun s24 wr => 4 - (intOf s24).toNat)
          case atStart => exact ⟨0, Nat.zero_le _, rfl, BF, BG, HO5, HB5⟩
          case round =>
            clear BF BG HO5 HB5
            obtain ⟨k, hk, rfl, BF, BG, HO, HB⟩ := hrel
            by_cases hk4 : k < 4
            · have hk1 : (k : Int) < 4 := by omega
              have hk0 : (0 : Int) ≤ (k : Int) := by omega
              have hdk : decide ((k : Int) < 4) = true := by simp; omega
              gi_wp2
              refine reg14 (fun h_ => by obtain ⟨_, _, h_⟩ := h_; exact h_) (fun _ _ _ _ _ h => h) gf gb k k rfl hk4 hne hne2 x HX.out.2 W.heap.size W (.slice F6 n6 e6) ((chF l0 j).take i) GF.out GB.out wr BF.out BG.out HO.out HB.out _ _ _ _ _ _ _ _ _ _ _ _ _ _ _ _ _ _ _ _ _ _ _ _ _ _ _ _ _ _ _ _ _ _ _ _ _ _ _ _ _ _ _ _ _ _ _ _ _ _ _ _ _ _ _ _ _ _ _ _ ?_
              clear BF BG HO HB
              intro w7 hf7 hb7 hO7 hB7 v27 v28 v29 v30 v31 v32 v33 v34 v35 v36 v37 v38 v39 v40 v41 v42 v43 v44 v45 v46 v47 v48 v49
              have BF := Aside0.mk hf7
              have BG := Aside0.mk hb7
              have HO := Aside0.mk hO7
              have HB := Aside0.mk hB7
              clear hf7 hb7 hO7 hB7
              gi_wp2
              go_roundw
              case rel => exact ⟨k + 1, by omega, by go_num, BF, BG, HO, HB⟩
              case measure => simp [intOf]; omega
            · obtain rfl : k = 4 := by omega
              have hd4 : decide (((4 : Nat) : Int) < 4) = false := by simp
              have hE := Aside0.mk (chF_at HX.out.1 (by omega))
              have hyl : ((chF l0 j).take i).length ≤ 100000 := by rw [List.length_take]; omega
              gi_wp2_with ((refine reg16 ?hLa gb x W.heap.size W F6 n6 e6 ((chF l0 j).take i) hyl wr BG.out (Kd.R_mono HO.out (fun _ _ => trivial)) HB.out HB.out.size _ _ _ _ _ _ _ _ _ _ _ _ _ _ _ _ _ _ _ _ _ _ _ _ _ _ _ _ _ _ _ _ _ _ _ _ _ _ _ _ _ _ _ _ _ _ _ _ _ _ _ _ _ _ _ _ _ _ _ ?_); (case hLa => rintro ⟨_, _, h_⟩; exact h_))
              clear BF BG HO HB
              intro w7 E7 n7 e7 hO7 hB7 _ v53 v54 v55
              rw [← hE.out] at hO7
              have HO := Aside0.mk hO7
              have HB := Aside0.mk hB7
              clear hO7 hB7 hE
              gi_wp2
              go_roundw
              case rel => exact ⟨i + 1, E7, n7, e7, by omega, by go_num, rfl, HO, HB⟩
              case measure => simp [intOf]; omega
        · have HIM : Aside0 (i = m) := ⟨by omega⟩
          have hd : decide ((i : Int) < (m : Int)) = false := by simp; omega
          have hd' : decide (i < m) = false := by simp; omega
          have hpl : (pre.map (fun x : Ch (nCh l0.length) => chF l0 x.1)).length ≤ 100000 := by rw [List.length_map]; have hn_ : nCh l0.length ≤ 100000 := by { unfold nCh; omega }; omega
          clear him
          have HYS : Aside0 ((chF l0 j).take i = chF l0 j) := ⟨List.take_of_length_le (by rw [chF_len]; have := HIM.out; omega)⟩
          gi_wp2_with ((refine reg18 ?hLb w1.heap.size (fun k => k ≠ w1.heap.size ∧ k ≠ gs ∧ k ≠ gn) (fun k hk => hk.1) w.heap.size W.heap.size BW.out.size hwsz BX.out.lt w E n e _ hpl F6 n6 e6 _ wr ((HB.out.block _ BX.out.lt).trans BX.out) (Kd.R_below RO.out HB.out) (fun k hk => ((Kd.R_bound RO.out).1 k hk).2.2.1) (fun k hk => by have := BX.out.lt; omega) HO.out (BW.out.trans (HB.out.mono BW.out.size)) HB.out.size _ _ _ _ _ _ _ _ _ _ _ _ _ _ _ _ _ _ _ _ _ _ _ _ _ _ _ _ _ _ _ _ _ _ _ _ _ _ _ _ _ _ _ _ _ _ _ _ _ _ _ _ _ _ _ _ _ _ _ _ _ ?_); (case hLb => rintro ⟨_, _, h_⟩; exact h_))
          intro w7 E7 n7 e7 hX7 hO7 hB7 hK7 hP7 v57 v58 v59 v60
          rw [HYS.out] at hO7
          have HF : Aside0 (KeepsOthers W w7 ∧ KpC gs gn W w7 ∧ CellsI l0 w w1.heap.size gs gn (pre ++ [⟨j, hj⟩]) w7) := ⟨(others_below HB.out).trans hK7, ⟨(hP7 gs hW1 (by omega) (fun h_ => h_.2.1 rfl)).trans (HB.out.block gs hW1), (hP7 gn hW2 (by omega) (fun h_ => h_.2.2 rfl)).trans (HB.out.block gn hW2)⟩, ⟨E7, n7, e7, hX7, by rw [List.map_append]; exact hO7⟩, hB7, Nat.lt_of_lt_of_le hW1 (Nat.le_trans HB.out.size hK7.size), Nat.lt_of_lt_of_le hW2 (Nat.le_trans HB.out.size hK7.size)⟩
          clear hX7 hO7 hB7 hK7 hP7
          gi_wp2
          exact HF.out
    case done =>
      rintro D ys W hD rfl ⟨⟨E, n, e, hbx, hR⟩, hB, _, _⟩ hK
      have hc := hbx.cell
      gi_wp2
      refine ⟨by simp, .inl ⟨_, _, rfl, run_takeDeferred hK, ?_⟩⟩
      rw [cells_upto] at hR
      exact ⟨_, results_tmp2 rfl _ _ _, _, rfl, R_toV (R_other hR (grownBy_putObj' _ D _) (fun r e => by cases e; exact ⟨_, hK, rfl⟩)), hB.trans (belowK_b (w := w) (Nat.le_refl _) W D _ _ (by omega) hK rfl rfl)⟩
    case stop =>
      rintro D c pre W _ _ h _
      exact h.elim
end Go.Proofs.Ytmplcceghjofhaa.PF
