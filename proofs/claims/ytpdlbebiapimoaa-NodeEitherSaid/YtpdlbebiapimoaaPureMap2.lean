/- Putting and dropping in leaves: lengths, sizes, what the program's functions answer -/
import Derived.Test.YtpdlbebiapimoaaPureMap
import Derived.Test.YtpdlbebiapimoaaPureA
namespace Go.Proofs.Ytpdlbebiapimoaa.PN
open Go.RowKit Go.Proofs.YtpdlbebiapimoaaW.PrintWords Go.Proofs.YtpdlbebiapimoaaW.PrintLast Go.Proofs.YtpdlbebiapimoaaW.PrintMore
set_option linter.unusedVariables false
set_option linter.unusedSimpArgs false
/-- A leaf of no more than n keys, each, and each value, of 100 bytes. -/
structure Leaf (n : Nat) (ks vs : List ByteArray) : Prop where
  R : rising ks = true
  L : vs.length = ks.length
  N : ks.length ≤ n
  K : ∀ s ∈ ks, s.size ≤ 100
  V : ∀ s ∈ vs, s.size ≤ 100
theorem Leaf.chk {n : Nat} {ks vs : List ByteArray} (h : Leaf n ks vs) : chk true ks vs [] = 0 :=
  chk_mk (long_mk (m := 100) h.K) (long_mk (m := 100) h.V) h.R ⟨h.L, rfl⟩
theorem Leaf.of {ks vs : List ByteArray} {cs : List Int} (h : PN.chk true ks vs cs = 0) (hn : ks.length ≤ 100) : Leaf 100 ks vs ∧ cs = [] := by
  obtain ⟨h1, h2, h3, h4⟩ := chk_zero h
  rw [if_pos rfl] at h4
  exact ⟨⟨h3, h4.1, hn, long_false (m := 100) h1, long_false (m := 100) h2⟩, List.eq_nil_of_length_eq_zero h4.2⟩
theorem Leaf.put {n : Nat} {ks vs : List ByteArray} (h : Leaf n ks vs) {key value : ByteArray} (hk : key.size ≤ 100) (hv : value.size ≤ 100) : Leaf (n + 1) (putK ks key) (putV ks vs key value) := by
  refine ⟨putK_rising h.R key, putV_len h.R h.L key value, ?_, ?_, ?_⟩
  · have := putK_len h.R key
    have := h.N
    omega
  · intro s hs
    unfold putK at hs
    rw [List.mem_append, List.mem_append, List.mem_singleton] at hs
    rcases hs with (hs | rfl) | hs
    · exact h.K s (List.mem_of_mem_take hs)
    · exact hk
    · exact h.K s (List.mem_of_mem_drop hs)
  · intro s hs
    unfold putV at hs
    rw [List.mem_append, List.mem_append, List.mem_singleton] at hs
    rcases hs with (hs | rfl) | hs
    · exact h.V s (List.mem_of_mem_take hs)
    · exact hv
    · exact h.V s (List.mem_of_mem_drop hs)
theorem Leaf.drop {n : Nat} {ks vs : List ByteArray} (h : Leaf n ks vs) (key : ByteArray) : Leaf n (dropK ks key) (dropV ks vs key) :=
  ⟨dropK_rising h.R key, dropV_len h.R h.L key, Nat.le_trans (dropK_sub key).length_le h.N, fun s hs => h.K s ((dropK_sub key).subset hs), fun s hs => h.V s ((dropV_sub key).subset hs)⟩
theorem Leaf.put_f {n : Nat} {ks vs : List ByteArray} (h : Leaf n ks vs) (hn : n ≤ 1000) (key value : ByteArray) : node_Put.f true ks vs [] key value = some (true, putK ks key, putV ks vs key value, []) := by
  have h1 := h.N
  have h2 := h.L
  unfold node_Put.f
  rw [if_pos ⟨by omega, by omega, by simp⟩, if_pos rfl, if_pos ⟨h.R, h.L⟩]
  rfl
theorem Leaf.drop_f {n : Nat} {ks vs : List ByteArray} (h : Leaf n ks vs) (hn : n ≤ 1000) (key : ByteArray) : node_Drop.f true ks vs [] key = some (true, dropK ks key, dropV ks vs key, []) := by
  have h1 := h.N
  have h2 := h.L
  unfold node_Drop.f dropK dropV
  rw [if_pos ⟨⟨by omega, by omega, by simp⟩, h.R⟩]
  cases hi : isin ks key with
  | true => simp only [Bool.and_self, if_true]; rw [if_pos h.L]
  | false => simp
theorem Leaf.find_f {n : Nat} {ks vs : List ByteArray} (h : Leaf n ks vs) (hn : n ≤ 1000) (key : ByteArray) : node_Find.f true ks vs [] key = some ((below ks key : Int), isin ks key) := by
  have h1 := h.N
  rw [find_eq true ks vs [] key h.R (by omega)]
  simp
theorem Leaf.check_f {n : Nat} {ks vs : List ByteArray} (h : Leaf n ks vs) (hn : n ≤ 1000) : node_Check.f true ks vs [] = some 0 := by
  have h1 := h.N
  have h2 := h.L
  unfold node_Check.f
  rw [if_pos ⟨by omega, by omega, by simp⟩, h.chk]
theorem Leaf.ext {n m : Nat} {ks vs ks' vs' : List ByteArray} (h : Leaf n ks vs) (h' : Leaf m ks' vs') (e : ∀ k v, (k, v) ∈ ks.zip vs ↔ (k, v) ∈ ks'.zip vs') : ks = ks' ∧ vs = vs' := zip_ext ks vs ks' vs' h.R h'.R h.L h'.L e
theorem Leaf.mem_put {n : Nat} {ks vs : List ByteArray} (h : Leaf n ks vs) (key value k v : ByteArray) : (k, v) ∈ (putK ks key).zip (putV ks vs key value) ↔ (k = key ∧ v = value) ∨ (k ≠ key ∧ (k, v) ∈ ks.zip vs) := put_mem h.R h.L key value k v
theorem Leaf.mem_drop {n : Nat} {ks vs : List ByteArray} (h : Leaf n ks vs) (key k v : ByteArray) : (k, v) ∈ (dropK ks key).zip (dropV ks vs key) ↔ k ≠ key ∧ (k, v) ∈ ks.zip vs := drop_mem h.R h.L key k v
theorem Leaf.got {n m : Nat} {ks vs ks' vs' : List ByteArray} (h : Leaf n ks vs) (h' : Leaf m ks' vs') (o : ByteArray) (e : ∀ v, (o, v) ∈ ks.zip vs ↔ (o, v) ∈ ks'.zip vs') : gotS ks vs o = gotS ks' vs' o := got_ext h.R h.L h'.R h'.L o e
theorem same_self (b : Bool) (ks vs : List ByteArray) (cs : List Int) (hk : ks.length ≤ 1000000) (hv : vs.length ≤ 1000000) (hc : cs.length ≤ 1000000) : Ev (fun k => lunetteref05_Same.f k b ks vs cs b ks vs cs) true :=
  ev_eq (Same05_ev b ks vs cs b ks vs cs hk hv hc) (by simp)
end Go.Proofs.Ytpdlbebiapimoaa.PN
