/- The document's Put and Drop: what stands while they fill their node -/
import Derived.Test.YtpdlbebiapimoaaHReg
namespace Go.Proofs.Ytpdlbebiapimoaa.PN
open Go.RowKit Go.Proofs.YtpdlbebiapimoaaW.PrintWords Go.Proofs.YtpdlbebiapimoaaW.PrintLast Go.Proofs.YtpdlbebiapimoaaW.PrintMore
set_option linter.unusedVariables false
set_option linter.unusedSimpArgs false
theorem opw {p A B : Prop} [Decidable p] (hw : p) (h : if p then A else B) : A := by rwa [if_pos hw] at h
/-- The blocks: n's, the result's, the node that is filled; the slices that lie in its cells (ku, vu), the newest ones (KU, VU). -/
structure St (w W : World) (ga gr go : Nat) (b : Bool) (A1 : Option Addr) (n1 c1 : Nat) (A2 : Option Addr) (n2 c2 : Nat) (A3 : Option Addr) (n3 c3 : Nat) (ku vu KU VU : Value) (ks vs : List ByteArray) : Prop where
  BA : NBox W ga b A1 n1 c1 A2 n2 c2 A3 n3 c3
  BR : NBox W gr false none 0 0 none 0 0 none 0 0
  BO : W.heap[go]? = some (.cells #[.bool true, ku, vu, .slice none 0 0] 25 (0, 0))
  HK : Kd.string.R 9 W w.heap.size (fun _ => True) KU ks
  HV : Kd.string.R 9 W w.heap.size (fun _ => True) VU vs
  AP : ∀ k, KU.ownBlock = some k → VU.ownBlock ≠ some k
  HB : Below w.heap.size w W
  GO : w.heap.size ≤ go ∧ w.heap.size ≤ gr ∧ ga ≠ go ∧ gr ≠ go
section
variable {w W w1 : World} {ga gr go : Nat} {b : Bool} {A1 : Option Addr} {n1 c1 : Nat} {A2 : Option Addr} {n2 c2 : Nat} {A3 : Option Addr} {n3 c3 : Nat} {ku vu KU VU : Value} {ks vs : List ByteArray}
theorem St.make (h : St w W ga gr go b A1 n1 c1 A2 n2 c2 A3 n3 c3 ku vu KU VU ks vs) (hb : Below W.heap.size W w1) : St w w1 ga gr go b A1 n1 c1 A2 n2 c2 A3 n3 c3 ku vu KU VU ks vs :=
  ⟨h.BA.below hb, h.BR.below hb, blk_below h.BO hb, Kd.R_below h.HK hb, Kd.R_below h.HV hb, h.AP, below_step h.HB hb, h.GO⟩
theorem St.drew (h : St w W ga gr go b A1 n1 c1 A2 n2 c2 A3 n3 c3 ku vu KU VU ks vs) : St w W.drew ga gr go b A1 n1 c1 A2 n2 c2 A3 n3 c3 ku vu KU VU ks vs :=
  ⟨⟨h.BA.out⟩, ⟨h.BR.out⟩, h.BO, Kd.R_drew h.HK, Kd.R_drew h.HV, h.AP, below_drew1 h.HB, h.GO⟩
theorem own_ne25 {g : Nat} {base : Nat} {cs : Array Value} {v : Value} {xs : List ByteArray} (h : Kd.string.R 9 W base (fun _ => True) v xs) (hg : W.heap[g]? = some (.cells cs 25 (0, 0))) : some g ≠ v.ownBlock := by
  intro e
  obtain ⟨_, _, ho, _⟩ := h
  obtain ⟨cells, hc⟩ := own_typed ho g e.symm
  rw [hc] at hg
  simp at hg
theorem own_ltR {base k : Nat} {v : Value} {xs : List ByteArray} (h : Kd.string.R 9 W base (fun _ => True) v xs) (hk : v.ownBlock = some k) : k < W.heap.size := by
  obtain ⟨_, _, ho, _⟩ := h
  exact own_lt ho k hk
theorem St.appK {v1 : Value} {xs : List ByteArray} (h : St w W ga gr go b A1 n1 c1 A2 n2 c2 A3 n3 c3 ku vu KU VU ks vs) (ho : Kd.string.R 9 w1 w.heap.size (fun _ => True) v1 xs) (hb : Below w.heap.size w w1) (hg : W.grownBy w1 KU.ownBlock)
    (hat : v1.ownBlock = KU.ownBlock ∨ ∃ b, v1.ownBlock = some b ∧ W.heap.size ≤ b) : St w w1 ga gr go b A1 n1 c1 A2 n2 c2 A3 n3 c3 ku vu v1 VU xs vs := by
  refine ⟨⟨blk_grown h.BA.out hg (own_ne25 h.HK h.BA.out)⟩, ⟨blk_grown h.BR.out hg (own_ne25 h.HK h.BR.out)⟩, blk_grown h.BO hg (own_ne25 h.HK h.BO), ho, Kd.R_grown2 h.HV rfl hg (fun k e1 e2 => h.AP k e1 e2.symm), fun k e1 e2 => ?_, hb, h.GO⟩
  rcases hat with e | ⟨q, e, hq⟩
  · exact h.AP k (by rw [← e, e1]) e2
  · have := own_ltR h.HV e2
    rw [e1] at e
    cases e
    omega
theorem St.appV {v1 : Value} {xs : List ByteArray} (h : St w W ga gr go b A1 n1 c1 A2 n2 c2 A3 n3 c3 ku vu KU VU ks vs) (ho : Kd.string.R 9 w1 w.heap.size (fun _ => True) v1 xs) (hb : Below w.heap.size w w1) (hg : W.grownBy w1 VU.ownBlock)
    (hat : v1.ownBlock = VU.ownBlock ∨ ∃ b, v1.ownBlock = some b ∧ W.heap.size ≤ b) : St w w1 ga gr go b A1 n1 c1 A2 n2 c2 A3 n3 c3 ku vu KU v1 ks xs := by
  refine ⟨⟨blk_grown h.BA.out hg (own_ne25 h.HV h.BA.out)⟩, ⟨blk_grown h.BR.out hg (own_ne25 h.HV h.BR.out)⟩, blk_grown h.BO hg (own_ne25 h.HV h.BO), Kd.R_grown2 h.HK rfl hg (fun k e1 e2 => h.AP k e2.symm e1), ho, fun k e1 e2 => ?_, hb, h.GO⟩
  rcases hat with e | ⟨q, e, hq⟩
  · exact h.AP k e1 (by rw [← e, e2])
  · have := own_ltR h.HK e1
    rw [e2] at e
    cases e
    omega
/-- The new slices are stored. -/
theorem St.store (h : St w W ga gr go b A1 n1 c1 A2 n2 c2 A3 n3 c3 ku vu KU VU ks vs) : St w ((W.setCell ⟨go, 1, none⟩ KU).setCell ⟨go, 2, none⟩ VU) ga gr go b A1 n1 c1 A2 n2 c2 A3 n3 c3 KU VU KU VU ks vs := by
  have e1 : ∀ {v : Value} {xs : List ByteArray}, Kd.string.R 9 W w.heap.size (fun _ => True) v xs → Kd.string.R 9 ((W.setCell ⟨go, 1, none⟩ KU).setCell ⟨go, 2, none⟩ VU) w.heap.size (fun _ => True) v xs := fun hr =>
    Kd.R_mono (Kd.R_far (Kd.R_far (Kd.R_types hr h.BO (by decide)) (fun _ h => h.2) _) (fun _ h => h.2) _) (fun _ _ => trivial)
  refine ⟨⟨blk_far (blk_far h.BA.out h.GO.2.2.1 _) h.GO.2.2.1 _⟩, ⟨blk_far (blk_far h.BR.out h.GO.2.2.2 _) h.GO.2.2.2 _⟩, blk_put (cs := #[.bool true, KU, vu, .slice none 0 0]) (blk_put h.BO 1 _ rfl) 2 _ rfl, e1 h.HK, e1 h.HV, h.AP, below_set (below_set h.HB h.GO.1) h.GO.1, h.GO⟩
theorem St.sees (h : St w W ga gr go b A1 n1 c1 A2 n2 c2 A3 n3 c3 ku vu KU VU ks vs) : W.cell? ⟨go, 1, none⟩ = some ku ∧ W.cell? ⟨go, 2, none⟩ = some vu ∧ W.cell? ⟨ga, 1, none⟩ = some (.slice A1 n1 c1) ∧ W.cell? ⟨ga, 2, none⟩ = some (.slice A2 n2 c2) :=
  ⟨(blk_cell h.BO 1).trans rfl, (blk_cell h.BO 2).trans rfl, h.BA.cells.2.1, h.BA.cells.2.2.1⟩
theorem St.sliceK (h : St w W ga gr go b A1 n1 c1 A2 n2 c2 A3 n3 c3 ku vu KU VU ks vs) : ∃ (E : Option Addr) (n e : Nat), KU = .slice E n e := by
  obtain ⟨A, c, e⟩ := Kd.R_slice h.HK
  exact ⟨A, _, c, e⟩
theorem St.sliceV (h : St w W ga gr go b A1 n1 c1 A2 n2 c2 A3 n3 c3 ku vu KU VU ks vs) : ∃ (E : Option Addr) (n e : Nat), VU = .slice E n e := by
  obtain ⟨A, c, e⟩ := Kd.R_slice h.HV
  exact ⟨A, _, c, e⟩
theorem St.drewN (h : St w W ga gr go b A1 n1 c1 A2 n2 c2 A3 n3 c3 ku vu KU VU ks vs) (m : Nat) : St w (W.drewN m) ga gr go b A1 n1 c1 A2 n2 c2 A3 n3 c3 ku vu KU VU ks vs :=
  ⟨⟨h.BA.out⟩, ⟨h.BR.out⟩, h.BO, Kd.R_drewN h.HK m, Kd.R_drewN h.HV m, h.AP, pw_below_drewN h.HB m, h.GO⟩
theorem St.start (BA : NBox W ga b A1 n1 c1 A2 n2 c2 A3 n3 c3) (BR : NBox W gr false none 0 0 none 0 0 none 0 0) (BO : NBox W go false none 0 0 none 0 0 none 0 0) (HB : Below w.heap.size w W) (GO : w.heap.size ≤ go ∧ w.heap.size ≤ gr ∧ ga ≠ go ∧ gr ≠ go) :
    St w ((((W.setCell ⟨go, 0, none⟩ (.bool true)).setCell ⟨go, 1, none⟩ (.slice none 0 0)).setCell ⟨go, 2, none⟩ (.slice none 0 0)).setCell ⟨go, 3, none⟩ (.slice none 0 0)) ga gr go b A1 n1 c1 A2 n2 c2 A3 n3 c3 (.slice none 0 0) (.slice none 0 0) (.slice none 0 0) (.slice none 0 0) [] [] :=
  ⟨BA.far4 GO.2.2.1, BR.far4 GO.2.2.2, (NBox.put4 BO).out, Kd.R_nil _ _ _ _ _, Kd.R_nil _ _ _ _ _, fun k h => by simp [Value.ownBlock] at h, below_put4 HB GO.1, GO⟩
theorem str_keep {p : Addr} {v : Value} (h : w.cell? p = some v) : ∀ W', Below w.heap.size w W' → W'.cell? p = some v := fun W' hb => (hb.cell (World.block_lt_of_cell? w p h)).trans h
theorem dropR_step (key : ByteArray) (ks vs : List ByteArray) (i : Nat) (x y : ByteArray) (hx : ks[i]? = some x) (hy : vs[i]? = some y) :
    dropR key (ks.take (i + 1)) (vs.take (i + 1)) = dropR key (ks.take i) (vs.take i) ++ if x.toList = key.toList then [] else [(x, y)] := by
  unfold dropR
  obtain ⟨h1, e1⟩ := List.getElem?_eq_some_iff.1 hx
  obtain ⟨h2, e2⟩ := List.getElem?_eq_some_iff.1 hy
  rw [List.take_add_one, List.take_add_one, hx, hy, List.zip_append (by rw [List.length_take, List.length_take]; omega), List.filter_append]
  congr 1
  by_cases h : x.toList = key.toList <;> simp [h]
theorem dropR_same (key : ByteArray) (ks vs : List ByteArray) (i : Nat) (x y : ByteArray) (hx : ks[i]? = some x) (hy : vs[i]? = some y) (h : x.toList = key.toList) : dropR key (ks.take (i + 1)) (vs.take (i + 1)) = dropR key (ks.take i) (vs.take i) := by
  rw [dropR_step key ks vs i x y hx hy, if_pos h, List.append_nil]
theorem dropR_more (key : ByteArray) (ks vs : List ByteArray) (i : Nat) (x y : ByteArray) (hx : ks[i]? = some x) (hy : vs[i]? = some y) (h : ¬ x.toList = key.toList) : dropR key (ks.take (i + 1)) (vs.take (i + 1)) = dropR key (ks.take i) (vs.take i) ++ [(x, y)] := by
  rw [dropR_step key ks vs i x y hx hy, if_neg h]
theorem drop_len (key : ByteArray) (ks vs : List ByteArray) (i : Nat) : ((dropR key (ks.take i) (vs.take i)).map (·.1)).length ≤ i ∧ ((dropR key (ks.take i) (vs.take i)).map (·.2)).length ≤ i := by
  have : (dropR key (ks.take i) (vs.take i)).length ≤ i := by
    unfold dropR
    refine Nat.le_trans (List.length_filter_le _ _) ?_
    rw [List.length_zip, List.length_take]
    omega
  simpa using this
theorem putR_step (key value : ByteArray) (ks vs : List ByteArray) (i : Nat) (x y : ByteArray) (hx : ks[i]? = some x) (hy : vs[i]? = some y) :
    putR key value (ks.take (i + 1)) (vs.take (i + 1)) = putStep key value (putR key value (ks.take i) (vs.take i)) (x, y) := by
  unfold putR
  obtain ⟨h1, e1⟩ := List.getElem?_eq_some_iff.1 hx
  obtain ⟨h2, e2⟩ := List.getElem?_eq_some_iff.1 hy
  rw [List.take_add_one, List.take_add_one, hx, hy, List.zip_append (by rw [List.length_take, List.length_take]; omega), List.foldl_append]
  rfl
theorem putStep_len (key value : ByteArray) (st : List ByteArray × List ByteArray × Bool) (kv : ByteArray × ByteArray) : (putStep key value st kv).1.length ≤ st.1.length + 2 ∧ (putStep key value st kv).2.1.length ≤ st.2.1.length + 2 := by
  unfold putStep
  by_cases h1 : st.2.2 = false ∧ slt kv.1 key = false <;> by_cases h2 : kv.1.toList = key.toList <;> simp [h1, h2]
theorem putR_len (key value : ByteArray) (ks vs : List ByteArray) (i : Nat) (hi : i ≤ ks.length) (hl : vs.length = ks.length) : (putR key value (ks.take i) (vs.take i)).1.length ≤ 2 * i ∧ (putR key value (ks.take i) (vs.take i)).2.1.length ≤ 2 * i := by
  induction i with
  | zero => simp [putR]
  | succ i ih =>
    have h := ih (by omega)
    rw [putR_step key value ks vs i ks[i] (vs[i]'(by omega)) (List.getElem?_eq_getElem (by omega)) (List.getElem?_eq_getElem (by omega))]
    have h2 := putStep_len key value (putR key value (ks.take i) (vs.take i)) (ks[i], vs[i]'(by omega))
    omega
theorem putStep_A (key value x y : ByteArray) (ks vs : List ByteArray) (h : slt x key = false) : (x.toList = key.toList → putStep key value (ks, vs, false) (x, y) = (ks ++ [key], vs ++ [value], true)) ∧ (¬ x.toList = key.toList → putStep key value (ks, vs, false) (x, y) = ((ks ++ [key]) ++ [x], (vs ++ [value]) ++ [y], true)) := by
  unfold putStep
  exact ⟨fun hx => by simp [h, hx], fun hx => by simp [h, hx]⟩
theorem putStep_N (key value x y : ByteArray) (ks vs : List ByteArray) (dn : Bool) (h : ¬ (dn = false ∧ slt x key = false)) : (x.toList = key.toList → putStep key value (ks, vs, dn) (x, y) = (ks, vs, dn)) ∧ (¬ x.toList = key.toList → putStep key value (ks, vs, dn) (x, y) = (ks ++ [x], vs ++ [y], dn)) := by
  unfold putStep
  exact ⟨fun hx => by simp [h, hx], fun hx => by simp [h, hx]⟩
theorem C_strg {g : Nat} {k : ByteArray} (h : W.heap[g]? = some (.cells #[.string k] 9 (0, 0))) : Kd.string.C W (some ⟨g, 0, none⟩) 1 [k] := by
  refine ⟨rfl, by omega, fun _ => ⟨_, rfl, fun j p hj => ?_⟩⟩
  match j, hj with
  | 0, hj =>
    simp at hj; subst hj
    refine ⟨[.string k], rfl, rfl, fun i u hu => ?_⟩
    match i, hu with
    | 0, hu => simp at hu; subst hu; exact (blk_cell h 0).trans rfl
end
section
variable {P : Program} {Q : Exit → Act → World → Prop} {Kc : Act → World → Prop} {o : Oper} {a : Act}
variable {w W : World} {ga gr go : Nat} {b : Bool} {A1 : Option Addr} {n1 c1 : Nat} {A2 : Option Addr} {n2 c2 : Nat} {A3 : Option Addr} {n3 c3 : Nat} {ku vu KU VU : Value} {ks vs : List ByteArray}
theorem St.opK (hgd : o.guard = none) (ht : P.underlying 22 = some (.slice 9)) (hinfo : (P.info? 9).map (fun i => (i.zero, i.size, i.bytes)) = some (some (.string ⟨#[]⟩), 1, 16)) (s x : Operand) (g : Nat) (k : ByteArray)
    (ho : o.op = .call { callee := .builtin .append, args := #[s, x], argTypes := #[22, 22] }) (hs : a.eval s = KU) (hx : a.eval x = .slice (some ⟨g, 0, none⟩) 1 1)
    (h : St w W ga gr go b A1 n1 c1 A2 n2 c2 A3 n3 c3 ku vu KU VU ks vs) (hg : W.heap[g]? = some (.cells #[.string k] 9 (0, 0))) (hl : ks.length ≤ 1000000)
    (hK : ∀ (v1 : Value) (w1 : World), St w w1 ga gr go b A1 n1 c1 A2 n2 c2 A3 n3 c3 ku vu v1 VU (ks ++ [k]) vs → (∀ (q : Nat) (cs : Obj), W.heap[q]? = some cs → (∀ j, KU.ownBlock = some j → j ≠ q) → w1.heap[q]? = some cs) → Kc (a.put o.dst v1) w1) : Oper.wp P o a W Kc Q := by
  have hw : Region.wanted o (yielded (#[] : Array Oper) a.tmps) = true := by simp [Region.wanted, hgd]
  refine opw hw (Kd.R_append_rows_step Kd.string (w0 := w) w.heap.size hw s x 22 9 (.string ⟨#[]⟩) 16 ho ht hinfo rfl (by decide) (by omega) KU ks [k] _ _ _ (fun _ => True) (fun _ => False) hs hx h.HK (C_strg hg) (fun _ _ h => h) (fun _ h => h.elim) (fun _ _ => trivial) h.HB (below_size h.HB) (by omega) ?_)
  intro v1 w1 ho2 hb hgr hat
  exact hK v1 w1 (h.appK ho2 hb hgr hat) (fun q cs hq hne => blk_grown hq hgr (fun e => hne q e.symm rfl))
theorem St.opV (hgd : o.guard = none) (ht : P.underlying 22 = some (.slice 9)) (hinfo : (P.info? 9).map (fun i => (i.zero, i.size, i.bytes)) = some (some (.string ⟨#[]⟩), 1, 16)) (s x : Operand) (g : Nat) (k : ByteArray)
    (ho : o.op = .call { callee := .builtin .append, args := #[s, x], argTypes := #[22, 22] }) (hs : a.eval s = VU) (hx : a.eval x = .slice (some ⟨g, 0, none⟩) 1 1)
    (h : St w W ga gr go b A1 n1 c1 A2 n2 c2 A3 n3 c3 ku vu KU VU ks vs) (hg : W.heap[g]? = some (.cells #[.string k] 9 (0, 0))) (hl : vs.length ≤ 1000000)
    (hK : ∀ (v1 : Value) (w1 : World), St w w1 ga gr go b A1 n1 c1 A2 n2 c2 A3 n3 c3 ku vu KU v1 ks (vs ++ [k]) → Kc (a.put o.dst v1) w1) : Oper.wp P o a W Kc Q := by
  have hw : Region.wanted o (yielded (#[] : Array Oper) a.tmps) = true := by simp [Region.wanted, hgd]
  refine opw hw (Kd.R_append_rows_step Kd.string (w0 := w) w.heap.size hw s x 22 9 (.string ⟨#[]⟩) 16 ho ht hinfo rfl (by decide) (by omega) VU vs [k] _ _ _ (fun _ => True) (fun _ => False) hs hx h.HV (C_strg hg) (fun _ _ h => h) (fun _ h => h.elim) (fun _ _ => trivial) h.HB (below_size h.HB) (by omega) ?_)
  intro v1 w1 ho2 hb hgr hat
  exact hK v1 w1 (h.appV ho2 hb hgr hat)
/-- A block with one text is made. -/
theorem St.opM (k : ByteArray) (hrun : (execOp a.eval o).run P W = .ok (.value (.slice (some ⟨W.heap.size, 0, none⟩) 1 1)) (W.alloc (.cells #[.string k] 9 (0, 0))))
    (h : St w W ga gr go b A1 n1 c1 A2 n2 c2 A3 n3 c3 ku vu KU VU ks vs)
    (hK : ∀ (g : Nat) (w1 : World), St w w1 ga gr go b A1 n1 c1 A2 n2 c2 A3 n3 c3 ku vu KU VU ks vs → w1.heap[g]? = some (.cells #[.string k] 9 (0, 0)) → (∀ j, KU.ownBlock = some j → j ≠ g) → (∀ (q : Nat) (cs : Obj), W.heap[q]? = some cs → w1.heap[q]? = some cs) → Kc (a.put o.dst (.slice (some ⟨g, 0, none⟩) 1 1)) w1) : Oper.wp P o a W Kc Q := by
  refine oper_make 1 hrun (fun g hg w1 hbox hb => ?_)
  exact hK g w1 (h.make hb) hbox (fun j hj => by have := own_ltR h.HK hj; omega) (fun q cs hq => blk_below hq hb)
end
end Go.Proofs.Ytpdlbebiapimoaa.PN
