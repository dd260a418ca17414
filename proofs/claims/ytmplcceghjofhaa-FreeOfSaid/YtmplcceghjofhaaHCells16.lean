/- free.Cells: regions 16 and 18 -/
import Derived.Test.YtmplcceghjofhaaHCells14
namespace Go.Proofs.Ytmplcceghjofhaa.PF
open Go.RowKit Go.Proofs.YtmplcceghjofhaaW.PrintWords Go.Proofs.YtmplcceghjofhaaW.PrintLast Go.Proofs.YtmplcceghjofhaaW.PrintMore
set_option linter.unusedVariables false
set_option linter.unusedSimpArgs false
theorem info9 : (Try.prog.info? 9).map (fun i => (i.zero, i.size, i.bytes)) = some (some (.string ⟨#[]⟩), 1, 16) := by kernel_rfl
theorem info39 : (Try.prog.info? 39).map (fun i => (i.zero, i.size, i.bytes)) = some (some (.slice none 0 0), 1, 24) := by kernel_rfl
/-- A page's eight bytes, read as its cell. -/
theorem cell_of_bytes {w : World} {gb : Nat} {x : S25} (h : w.heap[gb]? = some (.cells (bArr x 4) 5 (0, 0))) : (convert 57 9 (.slice (some ⟨gb, 0, none⟩) 8 8)).run Try.prog w = .ok (.string (cellF x)) w := by
  refine string_of_reads (xs := [x.f0 / 16777216 % 256, x.f0 / 65536 % 256, x.f0 / 256 % 256, x.f0 % 256, x.f1 / 16777216 % 256, x.f1 / 65536 % 256, x.f1 / 256 % 256, x.f1 % 256]) Try.underlying57 Try.underlying5 Try.underlying9 ⟨rfl, by decide, fun _ => ⟨⟨gb, 0, none⟩, rfl, fun j hj => ?_⟩⟩
  have e0 : x.f0 / 1 = x.f0 := Int.ediv_one _
  have e1 : x.f1 / 1 = x.f1 := Int.ediv_one _
  have hc := fun i => blk_cell h i
  rcases (by omega : j = 0 ∨ j = 1 ∨ j = 2 ∨ j = 3 ∨ j = 4 ∨ j = 5 ∨ j = 6 ∨ j = 7) with rfl | rfl | rfl | rfl | rfl | rfl | rfl | rfl
  · exact (hc 0).trans rfl
  · exact (hc 1).trans rfl
  · exact (hc 2).trans rfl
  · exact (hc 3).trans (congrArg (fun z => some (Value.int .u8 (z % 256))) e0)
  · exact (hc 4).trans rfl
  · exact (hc 5).trans rfl
  · exact (hc 6).trans rfl
  · exact (hc 7).trans (congrArg (fun z => some (Value.int .u8 (z % 256))) e1)
abbrev o19_16_0 : Oper := { dst := some 51, op := .move (.tmp 6), type := 39, pos := "free.go:73", after := #[], guard := none }
abbrev o19_16_1 : Oper := { dst := some 52, op := .move (.tmp 9), type := 57, pos := "free.go:73", after := #[], guard := none }
abbrev o19_16_2 : Oper := { dst := some 53, op := .convert 57 9 (.tmp 52), type := 9, pos := "free.go:73", after := #[{ on := 1, ground := .data }], guard := none }
abbrev o19_16_3 : Oper := { dst := some 54, op := .buildSlice 39 1 #[(0, .tmp 53)], type := 39, pos := "free.go:73", after := #[{ on := 2, ground := .data }], guard := none }
abbrev o19_16_4 : Oper := { dst := some 55, op := .call { callee := .builtin .append, args := #[.tmp 51, .tmp 54], argTypes := #[39, 39] }, type := 39, pos := "free.go:73", after := #[{ on := 0, ground := .data }, { on := 3, ground := .data }], guard := none }
abbrev o19_16_5 : Oper := { dst := some 6, op := .assign (.tmp 55), type := 39, pos := "free.go:73", after := #[{ on := 4, ground := .data }, { on := 4, ground := .chain }, { on := 0, ground := .phase }, { on := 1, ground := .phase }, { on := 2, ground := .phase }, { on := 3, ground := .phase }, { on := 4, ground := .phase }], guard := none }
abbrev o19_18_0 : Oper := { dst := some 57, op := .load 33 (.tmp 4), type := 33, pos := "free.go:75", after := #[], guard := none }
abbrev o19_18_1 : Oper := { dst := some 58, op := .move (.tmp 6), type := 39, pos := "free.go:75", after := #[], guard := none }
abbrev o19_18_2 : Oper := { dst := some 59, op := .buildSlice 33 1 #[(0, .tmp 58)], type := 33, pos := "free.go:75", after := #[{ on := 1, ground := .data }], guard := none }
abbrev o19_18_3 : Oper := { dst := some 60, op := .call { callee := .builtin .append, args := #[.tmp 57, .tmp 59], argTypes := #[33, 33] }, type := 33, pos := "free.go:75", after := #[{ on := 0, ground := .data }, { on := 2, ground := .data }], guard := none }
abbrev o19_18_4 : Oper := { dst := none, op := .store 33 (.tmp 4) (.tmp 60), type := 0, pos := "free.go:75", after := #[{ on := 3, ground := .data }, { on := 3, ground := .chain }, { on := 0, ground := .phase }, { on := 1, ground := .phase }, { on := 2, ground := .phase }, { on := 3, ground := .phase }], guard := none }
set_option maxHeartbeats 4000000 in
set_option maxRecDepth 100000 in
theorem reg16 {l n : Nat} {Q : Exit → Act → World → Prop} (hL : ¬ LetsOut Q) (gb : Nat) (x : S25) (B : Nat) (W0 : World) (E : Option Addr) (n6 e6 : Nat) (ys : List ByteArray) (hys : ys.length ≤ 100000) (wr : World)
    (hb : wr.heap[gb]? = some (.cells (bArr x 4) 5 (0, 0))) (hO : Kd.string.R 9 wr B (fun _ => True) (.slice E n6 e6) ys) (hB : Below B W0 wr) (hs : B ≤ wr.heap.size) (s0 s1 s2 s3 s4 s5 s7 s8 s10 s11 s12 s13 s14 s15 s16 s17 s18 s19 s20 s21 s22 s23 s24 s25 s26 s27 s28 s29 s30 s31 s32 s33 s34 s35 s36 s37 s38 s39 s40 s41 s42 s43 s44 s45 s46 s47 s48 s49 s50 s53 s54 s55 s56 s57 s58 s59 s60 s61 : Value) (d : List Deferred)
    (h : ∀ w' E' n' e', Kd.string.R 9 w' B (fun _ => True) (.slice E' n' e') (ys ++ [cellF x]) → Below B W0 w' → B ≤ w'.heap.size → ∀ u53 u54 u55 : Value, Q .normal { tmps := ((s0) :: (s1) :: (s2) :: (s3) :: (s4) :: (s5) :: (.slice E' n' e') :: (s7) :: (s8) :: (.slice (some ⟨gb, 0, none⟩) 8 8) :: (s10) :: (s11) :: (s12) :: (s13) :: (s14) :: (s15) :: (s16) :: (s17) :: (s18) :: (s19) :: (s20) :: (s21) :: (s22) :: (s23) :: (s24) :: (s25) :: (s26) :: (s27) :: (s28) :: (s29) :: (s30) :: (s31) :: (s32) :: (s33) :: (s34) :: (s35) :: (s36) :: (s37) :: (s38) :: (s39) :: (s40) :: (s41) :: (s42) :: (s43) :: (s44) :: (s45) :: (s46) :: (s47) :: (s48) :: (s49) :: (s50) :: (.slice E n6 e6) :: (.slice (some ⟨gb, 0, none⟩) 8 8) :: (u53) :: (u54) :: (u55) :: (s56) :: (s57) :: (s58) :: (s59) :: (s60) :: (s61) :: []).toArray, defers := d } w') :
    wpListIn (Fence.wide.inRound l) n Try.prog #[o19_16_0, o19_16_1, o19_16_2, o19_16_3, o19_16_4, o19_16_5] Q [o19_16_2, o19_16_3, o19_16_4, o19_16_5] { tmps := ((s0) :: (s1) :: (s2) :: (s3) :: (s4) :: (s5) :: (.slice E n6 e6) :: (s7) :: (s8) :: (.slice (some ⟨gb, 0, none⟩) 8 8) :: (s10) :: (s11) :: (s12) :: (s13) :: (s14) :: (s15) :: (s16) :: (s17) :: (s18) :: (s19) :: (s20) :: (s21) :: (s22) :: (s23) :: (s24) :: (s25) :: (s26) :: (s27) :: (s28) :: (s29) :: (s30) :: (s31) :: (s32) :: (s33) :: (s34) :: (s35) :: (s36) :: (s37) :: (s38) :: (s39) :: (s40) :: (s41) :: (s42) :: (s43) :: (s44) :: (s45) :: (s46) :: (s47) :: (s48) :: (s49) :: (s50) :: (.slice E n6 e6) :: (.slice (some ⟨gb, 0, none⟩) 8 8) :: (s53) :: (s54) :: (s55) :: (s56) :: (s57) :: (s58) :: (s59) :: (s60) :: (s61) :: []).toArray, defers := d } wr := by
  have HQ := Aside0.mk h
  have HO := Aside0.mk hO
  have HB := Aside0.mk hB
  have hcv := cell_of_bytes hb
  have hu39 := Try.underlying39
  clear h hO hB
  refine wpList_in hL _ (by kernel_rfl) _ _ ?_
  dsimp only [o19_16_0, o19_16_1, o19_16_2, o19_16_3, o19_16_4, o19_16_5]
  go_wp2_with (at_builtin; refine Kd.R_append Kd.string (w0 := W0) B rfl (.tmp 51) (.tmp 54) 39 9 (.string ⟨#[]⟩) 16 rfl Try.underlying39 info9 rfl (by decide) (by omega) (.slice E n6 e6) ys (cellF x) [.string (cellF x)] (fun _ => True) (fun _ => False) rfl rfl rfl (fun _ hk => hk.elim) (fun _ _ => trivial) HO.out HB.out hs (by omega) ?_)
  intro v1 w1 ho hb1 hg hat
  obtain ⟨E1, n1, e1⟩ := Kd.R_slice ho
  subst e1
  have HO2 := Aside0.mk ho
  have HB2 := Aside0.mk hb1
  have hs1 : B ≤ w1.heap.size := Nat.le_trans hs (Nat.le_trans (by simp) hg.size)
  clear ho hb1 hg hat
  go_wp2
  exact HQ.out _ _ _ _ HO2.out HB2.out hs1 _ _ _
set_option maxHeartbeats 4000000 in
set_option maxRecDepth 100000 in
theorem reg18 {l n : Nat} {Q : Exit → Act → World → Prop} (hL : ¬ LetsOut Q) (G : Nat) (okG : Nat → Prop) (hoG : ∀ k, okG k → k ≠ G) (B B1 : Nat) (hBB : B ≤ B1) (hGB : B ≤ G) (hGB1 : G < B1) (W0 : World) (E : Option Addr) (n0 e0 : Nat) (xs : List (List ByteArray)) (hxs : xs.length ≤ 100000)
    (F6 : Option Addr) (n6 e6 : Nat) (ys : List ByteArray) (wr : World) (hbx : Boxed wr G 33 (.slice E n0 e0))
    (hO : Kd.R (Kd.slice 9 Kd.string) 39 wr B okG (.slice E n0 e0) xs) (hown : ∀ k, (Value.slice E n0 e0).ownBlock = some k → k < B1) (hfr : ∀ k, B1 ≤ k → okG k)
    (hY : Kd.string.R 9 wr B1 (fun _ => True) (.slice F6 n6 e6) ys) (hB : Below B W0 wr) (hs : B1 ≤ wr.heap.size) (s0 s1 s2 s3 s5 s7 s8 s9 s10 s11 s12 s13 s14 s15 s16 s17 s18 s19 s20 s21 s22 s23 s24 s25 s26 s27 s28 s29 s30 s31 s32 s33 s34 s35 s36 s37 s38 s39 s40 s41 s42 s43 s44 s45 s46 s47 s48 s49 s50 s51 s52 s53 s54 s55 s56 s57 s58 s59 s60 s61 : Value) (d : List Deferred)
    (h : ∀ w' E' n' e', Boxed w' G 33 (.slice E' n' e') → Kd.R (Kd.slice 9 Kd.string) 39 w' B okG (.slice E' n' e') (xs ++ [ys]) → Below B W0 w' → KeepsOthers wr w' → (∀ k, k < B1 → k ≠ G → ¬ okG k → w'.heap[k]? = wr.heap[k]?) → ∀ u57 u58 u59 u60 : Value, Q .normal { tmps := ((s0) :: (s1) :: (s2) :: (s3) :: (.pointer (some ⟨G, 0, none⟩)) :: (s5) :: (.slice F6 n6 e6) :: (s7) :: (s8) :: (s9) :: (s10) :: (s11) :: (s12) :: (s13) :: (s14) :: (s15) :: (s16) :: (s17) :: (s18) :: (s19) :: (s20) :: (s21) :: (s22) :: (s23) :: (s24) :: (s25) :: (s26) :: (s27) :: (s28) :: (s29) :: (s30) :: (s31) :: (s32) :: (s33) :: (s34) :: (s35) :: (s36) :: (s37) :: (s38) :: (s39) :: (s40) :: (s41) :: (s42) :: (s43) :: (s44) :: (s45) :: (s46) :: (s47) :: (s48) :: (s49) :: (s50) :: (s51) :: (s52) :: (s53) :: (s54) :: (s55) :: (s56) :: (u57) :: (u58) :: (u59) :: (u60) :: (s61) :: []).toArray, defers := d } w') :
    wpListIn (Fence.wide.inRound l) n Try.prog #[o19_18_0, o19_18_1, o19_18_2, o19_18_3, o19_18_4] Q [o19_18_0, o19_18_1, o19_18_2, o19_18_3, o19_18_4] { tmps := ((s0) :: (s1) :: (s2) :: (s3) :: (.pointer (some ⟨G, 0, none⟩)) :: (s5) :: (.slice F6 n6 e6) :: (s7) :: (s8) :: (s9) :: (s10) :: (s11) :: (s12) :: (s13) :: (s14) :: (s15) :: (s16) :: (s17) :: (s18) :: (s19) :: (s20) :: (s21) :: (s22) :: (s23) :: (s24) :: (s25) :: (s26) :: (s27) :: (s28) :: (s29) :: (s30) :: (s31) :: (s32) :: (s33) :: (s34) :: (s35) :: (s36) :: (s37) :: (s38) :: (s39) :: (s40) :: (s41) :: (s42) :: (s43) :: (s44) :: (s45) :: (s46) :: (s47) :: (s48) :: (s49) :: (s50) :: (s51) :: (s52) :: (s53) :: (s54) :: (s55) :: (s56) :: (s57) :: (s58) :: (s59) :: (s60) :: (s61) :: []).toArray, defers := d } wr := by
  have HQ := Aside0.mk h
  have HO := Aside0.mk hO
  have HY := Aside0.mk hY
  have HB := Aside0.mk hB
  have HOW := Aside0.mk hown
  have HFR := Aside0.mk hfr
  have HBX := Aside0.mk hbx
  have hc := hbx.cell
  have hu33 := Try.underlying33
  have hu39 := Try.underlying39
  have HYM : Aside0 ((Kd.slice 9 Kd.string).M wr B (fun k => B1 ≤ k) ys [.slice F6 n6 e6]) := ⟨⟨_, rfl, Kd.R_lower (Kd.R_mono (Kd.R_bound hY) (fun k hk => hk.2.1)) hBB⟩⟩
  clear h hO hB hown hfr hY hbx
  refine wpList_in hL _ (by kernel_rfl) _ _ ?_
  dsimp only [o19_18_0, o19_18_1, o19_18_2, o19_18_3, o19_18_4]
  go_wp2_with (at_builtin; refine Kd.R_append (Kd.slice 9 Kd.string) (w0 := W0) B rfl (.tmp 57) (.tmp 59) 33 39 (.slice none 0 0) 24 rfl Try.underlying33 info39 rfl (by decide) (by omega) (.slice E n0 e0) xs ys [.slice F6 n6 e6] okG (fun k => B1 ≤ k) rfl rfl HYM.out ?aQ (fun k hk => HFR.out k (by omega)) HO.out HB.out (by omega) (by omega) ?_; (case aQ => intro k hk; exact ⟨HFR.out k hk, fun e_ => by have := HOW.out k e_.symm; omega⟩))
  intro v1 w1 ho hb1 hg hat
  obtain ⟨E1, n1, e1⟩ := Kd.R_slice ho
  obtain ⟨N1, hN1⟩ : ∃ N, (xs ++ [ys]).length = N := ⟨_, rfl⟩
  rw [hN1] at e1
  clear hN1
  subst e1
  have HO2 := Aside0.mk ho
  have HB2 := Aside0.mk hb1
  have HG2 := Aside0.mk hg
  have hbx1 : Boxed w1 G 33 (.slice E n0 e0) := HBX.out.kept hg (fun e_ => hoG G (HO.out.1 G e_.symm) rfl)
  have HX2 := Aside0.mk hbx1
  have hc1 := hbx1.cell
  have hf1 := hbx1.frozen
  clear ho hb1 hg hat hbx1 hc
  go_wp2
  refine HQ.out _ _ _ _ (HX2.out.set _) (Kd.R_far HO2.out (p := ⟨G, 0, none⟩) (fun k hk => hoG k hk) _) (HB2.out.setCell hGB _) ((KeepsOthers.of_grownBy HG2.out (fun j o e_ ho_ => ?_)).trans (KeepsOthers.setCell _ _ _)) (fun k h1 h2 h3 => (Below.heap_setCell _ _ _ _ h2).trans (HG2.out.block k (by omega) (fun e_ => h3 (HO.out.1 k e_.symm)))) _ _ _ _
  obtain ⟨_, _, _, q, _, cells, hcc⟩ := (Kd.R_bound HO.out).1 j e_
  rw [hcc] at ho_
  cases ho_
  rfl
end Go.Proofs.Ytmplcceghjofhaa.PF
