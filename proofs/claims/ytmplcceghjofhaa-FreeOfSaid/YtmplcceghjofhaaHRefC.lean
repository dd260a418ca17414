/- The document's Cells -/
import Derived.Test.YtmplcceghjofhaaHRefC8
import Derived.Test.YtmplcceghjofhaaHTake
namespace Go.Proofs.Ytmplcceghjofhaa.PF
open Go.RowKit Go.Proofs.YtmplcceghjofhaaW.PrintWords Go.Proofs.YtmplcceghjofhaaW.PrintLast Go.Proofs.YtmplcceghjofhaaW.PrintMore
set_option linter.unusedVariables false
set_option linter.unusedSimpArgs false
theorem own_some {W : World} {base e n : Nat} {v : Value} {xs : List Value} (h : W.ownsRow base e 1 v n xs) (hn : 0 < n) : ∃ g cap, v = .slice (some ⟨g, 0, none⟩) n cap := by
  rcases h.2 with ⟨rfl, h0⟩ | ⟨g, cap, cur, rfl, _⟩
  · have := h.1; omega
  · exact ⟨g, cap, rfl⟩
theorem take_snocF (l : List S25) (k : Nat) (x : S25) (h : l[k]? = some x) : l.take (k + 1) = l.take k ++ [x] := by rw [List.take_add_one, h]; rfl
set_option maxHeartbeats 4000000 in
set_option maxRecDepth 100000 in
theorem refCells_calls (A0 : Option Addr) (c0 : Nat) (l0 : List S25) (w : World) (hr0 : Kd.C k25 w A0 l0.length l0) (hl : l0.length ≤ 100000) (hf : ∀ x ∈ l0, fit x = true) :
    Calls Try.prog 20 #[.slice A0 l0.length c0] w fun e w' => ∃ v0_ : Value, e = .returned (v0_) ∧ Kd.V (Kd.slice 9 Kd.string) 39 w' w.heap.size (fun k_ => w.heap.size ≤ k_) v0_ (cellsF l0) ∧ Below w.heap.size w w' := by
  have H0 := Aside0.mk hr0
  have HF := Aside0.mk hf
  clear hr0 hf
  have hu33 := Try.underlying33
  have hu39 := Try.underlying39
  have hu22 := Try.underlying22
  go_enter Try.func20, Try.ntmps20
  go_wp2_with fail
  have HR := Aside0.mk (rows_made w)
  have HB := Aside0.mk (below_alloc (Below.refl _ w) (.cells #[] 39 (0, 0)))
  go_loopw [3, 4] (fun s3 s4 wr => ∃ (i : Nat) (f : Nat → Nat) (E : Option Addr) (n e : Nat) (vs : List Value), i ≤ l0.length ∧ s4 = .int .i64 i ∧ s3 = .slice E n e ∧ Aside0 ((cellsF (l0.take i)).length = n) ∧ Aside0 (RowsI f wr w.heap.size (.slice E n e) vs (cellsF (l0.take i))) ∧ Aside0 (Below w.heap.size w wr)) (fun s3 s4 wr => l0.length - (intOf s4).toNat)
  case atStart => exact ⟨0, _, _, 0, 0, [], Nat.zero_le _, rfl, rfl, ⟨by rw [List.take_zero, cells_nil]; rfl⟩, ⟨by rw [List.take_zero, cells_nil]; exact HR.out⟩, HB⟩
  case round =>
    clear HR HB
    obtain ⟨i, f, E, n, e, vs, hi, rfl, rfl, HN, HR, HB⟩ := hrel
    by_cases hil : i < l0.length
    · obtain ⟨ad, x, rfl, hs, hx0, hx1⟩ := fr_at H0.out i hil
      have HX : Aside0 (∀ W', Below w.heap.size w W' → W'.cell? (ad.add (i * 2)) = some (.int .i64 x.f0) ∧ W'.cell? ⟨(ad.add (i * 2)).block, (ad.add (i * 2)).off + 1, none⟩ = some (.int .i64 x.f1)) := ⟨fun W' hb => ⟨cell_keep hx0 W' hb, cell_keep hx1 W' hb⟩⟩
      have HFX := Aside0.mk (HF.out x (by obtain ⟨h_, e_⟩ := List.getElem?_eq_some_iff.1 hs.out; rw [← e_]; exact List.getElem_mem h_))
      have htl : (l0.take i).length = i := by rw [List.length_take]; omega
      have HTK := Aside0.mk (take_snocF l0 i x hs.out)
      have hnl : n = (i + 22) / 23 := by rw [← HN.out, cells_len, htl]
      have hi0 : (0 : Int) ≤ (i : Int) := by omega
      have hi1 : (i : Int) < (l0.length : Int) := by omega
      have hd : decide ((i : Int) < (l0.length : Int)) = true := by simp; omega
      have hd' : decide (i < l0.length) = true := by simp; omega
      have HNL := Aside0.mk hnl
      have hn1 : n ≤ 10000 := by omega
      obtain ⟨s1, s2⟩ := cells_snoc1 (l0.take i).length (l0.take i) x (Nat.le_refl _)
      rw [htl] at s1 s2
      clear hx0 hx1 htl hnl
      by_cases hm : i % 23 = 0
      · have HE := Aside0.mk (s1 hm)
        have hmm : ((i : Int) % 23 == 0) = true := beq_iff_eq.2 (by omega)
        clear s1 s2 hm
        go_wp2_with (at_builtin; refine print_append_cells (w0 := w) w.heap.size rfl (.tmp 16) (.tmp 17) 33 39 (.slice none 0 0) 1 24 rfl Try.underlying33 info39 rfl (by decide) (by decide) (.slice E n e) _ vs [.slice none 0 0] rfl rfl rfl (fun u hu => by rw [List.mem_singleton.1 hu]; rfl) HR.out.own HB.out HB.out.size (by rw [HN.out]; omega) ?_)
        intro v1 w1 hown hb1 hg hat
        obtain ⟨g, c1, rfl⟩ := own_some hown (by omega)
        have HR1 := Aside0.mk (rows_snoc HR.out hown hg hat)
        have HB1 := Aside0.mk hb1
        have hvl := HR.out.len
        have HVS : Aside0 ((vs ++ [Value.slice none 0 0])[n]? = some (.slice none 0 0)) := ⟨by rw [List.getElem?_append_right (by rw [hvl, HN.out]; omega), hvl, HN.out, Nat.sub_self]; rfl⟩
        rw [HN.out]
        rw [HN.out] at HR1
        obtain ⟨n1, hn1'⟩ : ∃ z, n + 1 = z := ⟨_, rfl⟩
        rw [hn1'] at HR1
        rw [hn1']
        have hnk : n1 = n + 1 := hn1'.symm
        have HNK := Aside0.mk hnk
        have hw1 : IntKind.i64.wrap ((n1 : Int) - 1) = (n : Int) := by rw [i64_w]; unfold Go.RowKit.wrap64; omega
        have hw2 : (n1 : Int) - 1 = (n : Int) := by omega
        have hn2 : (1 : Int) ≤ (n1 : Int) := by omega
        have hn3 : (n1 : Int) ≤ 10001 := by omega
        clear hown hb1 hg hat hvl hn1' hnk HR HB
        go_wp2_with fail
        have hnk := HNK.out
        refine refc8 (fun _ _ _ _ _ h => h) _ w.heap.size w g n1 c1 n i l0.length c0 ad (vs ++ [Value.slice none 0 0]) (.slice none 0 0) (cellsF (l0.take i)) ([]) x w1 hnk HN.out (by omega) (Nat.zero_le _) hil HFX.out HVS.out HR1.out HB1.out (Nat.le_trans HB1.out.size (Nat.le_refl _)) HX.out _ _ _ _ _ _ _ _ _ _ _ _ _ _ _ _ _ _ _ _ _ _ _ _ _ _ _ _ _ _ _ _ _ _ _ _ _ _ _ _ _ _ ?_
        intro w7 f7 vs7 hR7 hB7 u22 u23 u24 u25 u26 u27 u28 u29 u30 u31 u32 u33 u34 u35 u36 u37 u38 u39 u40 u41 u42 u43
        have HR7 := Aside0.mk hR7
        have HB7 := Aside0.mk hB7
        clear hR7 hB7
        go_wp2
        go_roundw
        case rel => exact ⟨i + 1, f7, _, n1, c1, vs7, by omega, by go_num, rfl, ⟨by rw [HTK.out, HE.out]; simp; have := HN.out; omega⟩, ⟨by rw [HTK.out, HE.out]; exact HR7.out⟩, HB7⟩
        case measure => simp [intOf]; omega
      · obtain ⟨init, c, e1, e2, e3⟩ := s2 hm
        have HE := Aside0.mk e3
        have hmm : ((i : Int) % 23 == 0) = false := beq_eq_false_iff_ne.2 (by omega)
        have hil2 : init.length + 1 = n := by rw [← HN.out, e1]; simp
        obtain ⟨k, hk⟩ : ∃ z, init.length = z := ⟨_, rfl⟩
        have HKL := Aside0.mk hk
        rw [e1] at HR
        have hvl := HR.out.len
        rw [List.length_append, hk] at hvl
        have hnk : n = k + 1 := by omega
        have HNK := Aside0.mk hnk
        obtain ⟨g, c1, hge⟩ := own_some HR.out.own (by simp)
        obtain ⟨hE1, hE2⟩ : E = some ⟨g, 0, none⟩ ∧ e = c1 := by injection hge with h1 _ h3; exact ⟨h1, h3⟩
        subst hE1 hE2
        obtain ⟨u, hu⟩ : ∃ u, vs[k]? = some u := ⟨vs[k]'(by simp at hvl; omega), List.getElem?_eq_getElem _⟩
        have HU := Aside0.mk hu
        have hw1 : IntKind.i64.wrap ((n : Int) - 1) = (k : Int) := by rw [i64_w]; unfold Go.RowKit.wrap64; omega
        have hw2 : (n : Int) - 1 = (k : Int) := by omega
        have hn2 : (1 : Int) ≤ (n : Int) := by omega
        have hn3 : (n : Int) ≤ 10001 := by omega
        have HC := Aside0.mk e2
        clear hm s1 s2 e1 e2 e3 hil2 hk hvl hnk hge hu
        go_wp2_with fail
        have hnk := HNK.out
        have hcl := HC.out
        refine refc8 (fun _ _ _ _ _ h => h) _ w.heap.size w g n e k i l0.length c0 ad vs u init c x wr hnk HKL.out (by omega) (by omega) hil HFX.out HU.out HR.out HB.out HB.out.size HX.out _ _ _ _ _ _ _ _ _ _ _ _ _ _ _ _ _ _ _ _ _ _ _ _ _ _ _ _ _ _ _ _ _ _ _ _ _ _ _ _ _ _ ?_
        intro w7 f7 vs7 hR7 hB7 u22 u23 u24 u25 u26 u27 u28 u29 u30 u31 u32 u33 u34 u35 u36 u37 u38 u39 u40 u41 u42 u43
        have HR7 := Aside0.mk hR7
        have HB7 := Aside0.mk hB7
        clear hR7 hB7
        go_wp2
        go_roundw
        case rel => exact ⟨i + 1, f7, _, n, e, vs7, by omega, by go_num, rfl, ⟨by rw [HTK.out, HE.out]; simp; have := HKL.out; omega⟩, ⟨by rw [HTK.out, HE.out]; exact HR7.out⟩, HB7⟩
        case measure => simp [intOf]; omega
    · obtain rfl : i = l0.length := by omega
      have hd : decide ((l0.length : Int) < (l0.length : Int)) = false := by simp
      rw [List.take_length] at HR
      go_wp2_with fail
      go_ret
      exact ⟨_, rfl, rows_V HR.out, HB.out⟩
end Go.Proofs.Ytmplcceghjofhaa.PF
