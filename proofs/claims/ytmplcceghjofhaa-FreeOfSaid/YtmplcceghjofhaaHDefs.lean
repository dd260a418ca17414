/- What the functions told by hand compute, in plain Lean: lists and numbers alone. -/
import Derived.Test.YtmplcceghjofhaaPF0
set_option linter.unusedVariables false
set_option linter.unusedSimpArgs false
namespace Go.Proofs.Ytmplcceghjofhaa.PF
open Go.RowKit Go.Proofs.YtmplcceghjofhaaW.PrintWords Go.Proofs.YtmplcceghjofhaaW.PrintLast Go.Proofs.YtmplcceghjofhaaW.PrintMore

/-- A list of free pages with a page more. -/
def putF (p e : Int) : List S25 → List S25
  | [] => [⟨p, e⟩]
  | x :: r => if x.f0 < p then x :: putF p e r else if x.f0 = p then ⟨p, e⟩ :: r else ⟨p, e⟩ :: x :: r
def free_Put.f (l0 : List (S25)) (a1 : Int) (a2 : Int) : Option ((List (S25))) := if l0.length ≤ 100000 then some (putF a1 a2 l0) else none

/-- The first page that may be used, the others, and whether there is one. -/
def takeF (o : Int) : List S25 → Int × List S25 × Bool
  | [] => (0, [], false)
  | x :: r => if x.f1 ≤ o then (x.f0, r, true) else ((takeF o r).1, x :: (takeF o r).2.1, (takeF o r).2.2)
def free_Take.f (l0 : List (S25)) (a1 : Int) : Option (Int × (List (S25)) × Bool) := if l0.length ≤ 100000 then some (takeF a1 l0) else none

/-- May a list be? -/
def chkF : List S25 → Bool
  | [] => true
  | [x] => decide (2 ≤ x.f0 ∧ x.f0 ≤ 4294967295 ∧ 0 ≤ x.f1 ∧ x.f1 ≤ 4294967295)
  | x :: y :: r => decide (2 ≤ x.f0 ∧ x.f0 ≤ 4294967295 ∧ 0 ≤ x.f1 ∧ x.f1 ≤ 4294967295) && decide (x.f0 < y.f0) && chkF (y :: r)
/-- A page's cell. -/
def cellF (x : S25) : ByteArray := strOfNums [x.f0 / 16777216 % 256, x.f0 / 65536 % 256, x.f0 / 256 % 256, x.f0 % 256, x.f1 / 16777216 % 256, x.f1 / 65536 % 256, x.f1 / 256 % 256, x.f1 % 256]
/-- A list as pages' cells: 23 and 23. -/
def cellsF (l : List S25) : List (List ByteArray) := (List.range ((l.length + 22) / 23)).map fun j => ((l.drop (23 * j)).take 23).map cellF
def free_Cells.f (l0 : List (S25)) : Option ((List (List ByteArray)) × Int) := if l0.length ≤ 100000 then some (if chkF l0 then (cellsF l0, 0) else ([], 60)) else none

/-- A cell's page. -/
def ofCell (s : ByteArray) : S25 := ⟨bt s 0 * 16777216 + bt s 1 * 65536 + bt s 2 * 256 + bt s 3, bt s 4 * 16777216 + bt s 5 * 65536 + bt s 6 * 256 + bt s 7⟩
/-- Are pages' cells full but for the last, and each of eight bytes? -/
def shapeF : List (List ByteArray) → Bool
  | [] => true
  | [c] => decide (0 < c.length ∧ c.length ≤ 23) && c.all (fun s => decide (s.size = 8))
  | c :: d :: r => decide (c.length = 23) && c.all (fun s => decide (s.size = 8)) && shapeF (d :: r)
def free_Of.f (l0 : List (List ByteArray)) : Option ((List (S25)) × Int) := if l0.length ≤ 100000 ∧ ∀ c ∈ l0, c.length ≤ 100000 then some (if shapeF l0 && chkF (l0.flatten.map ofCell) then (l0.flatten.map ofCell, 0) else ([], 60)) else none

/-- Is each page there once? -/
def coverF (l : List S25) (used : List Int) (pages : Int) : Bool := decide ((l.map (·.f0) ++ used).Nodup) && (l.map (·.f0) ++ used).all (fun p => decide (2 ≤ p ∧ p < pages)) && decide (((l.map (·.f0) ++ used).length : Int) = mx (wrap64 (pages - 2)) 0)
/-- Does a number fit into 64 bits? -/
def i64B (p : Int) : Bool := decide (-9223372036854775808 ≤ p ∧ p ≤ 9223372036854775807)
def free_Cover.f (l0 : List (S25)) (l1 : List Int) (a2 : Int) : Option (Bool) := if l0.length ≤ 100000 ∧ l1.length ≤ 100000 ∧ l0.all (fun x => i64B x.f0) = true ∧ l1.all i64B = true then some (coverF l0 l1 a2) else none

def lunettelaw06_awake.f  : Option (Bool) := some true
end Go.Proofs.Ytmplcceghjofhaa.PF
