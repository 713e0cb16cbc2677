/- Sums by keys: what is kept is told by the sums alone. Plain Lean. -/
import Derived.Test.YtbmcddmhfnnccaaListKit2
namespace Go.Proofs.Ytbmcddmhfnnccaa.ListKit
open Go.RowKit Go.Proofs.Ytbmcddmhfnnccaa.MapKit Go.Proofs.YtbmcddmhfnnccaaW.PrintWords
section
variable {κ α : Type} [DecidableEq κ] {lt : κ → κ → Bool} {f : α → κ} {g : α → Int}
end
/-- Sums over the keys that count. -/
def wsum {κ : Type} (φ : κ → Bool) (m : List (κ × Int)) : Int := (m.map fun p => if φ p.1 = true then p.2 else 0).sum
def gsum {κ α : Type} (φ : κ → Bool) (f : α → κ) (g : α → Int) (l : List α) : Int := (l.map fun x => if φ (f x) = true then g x else 0).sum
section
variable {κ α : Type} [DecidableEq κ] {lt : κ → κ → Bool} {f : α → κ} {g : α → Int}
end
end Go.Proofs.Ytbmcddmhfnnccaa.ListKit
