/-
  What the rows of the later chapters share: the listed tables.
-/
import Derived.Test.YtdekicijinmakaaGreatDoorRows
import Derived.Test.YtdekicijinmakaaGreatDoorCards
import Derived.Test.YtdekicijinmakaaGreatDoorTie
import Derived.Test.YtdekicijinmakaaGreatDoorCatZ
import Derived.Test.YtdekicijinmakaaGreatDoorOpen
import Derived.WalkKit
import Derived.ProofKit
import Derived.OpenShut
import Derived.JoinedCond
import Derived.Lib.SmallJoins
import Derived.ChangeSlices
import Derived.Carry
import Derived.LaidMore
import Derived.Stop.Joined
import Derived.Stop.LaidErr
import Derived.SevenTiedAt
namespace Go.Proofs.YtdekicijinmakaaGreatDoor
open Go.ChangeShapes Go.WideShapes Go.ChangeAt Go.RowKit Go.Joins
set_option linter.unusedVariables false
set_option linter.unusedSimpArgs false

theorem own : ownKnob Tryz.prog.godebug = none := by kernel_rfl
theorem laidOut : laidOutB Tryz.prog = true := by kernel_rfl
def laidL : List (String × DataW Unit) := [("unicode.White_Space", Rows.laid_unicode_White_Space), ("strings.asciiSpace", Rows.laid_strings_asciiSpace)]
theorem gTab : Tryz.prog.globalNamed "strings.asciiSpace" = some 0 := by kernel_rfl
theorem tTab : (Tryz.prog.globals[0]?).map (·.type) = some 158 := by kernel_rfl
set_option maxRecDepth 100000 in
theorem door_met (os : Os) (args : Array Value) : laidMetH Tryz.prog laidL ((World.doorLaid Tryz.prog 400 os).forCall (fun _ _ => 0) ⟨#[], args, []⟩).memory :=
  laidMetH_of_parts3 (fuel := 8) (laidMet_of_run' 8 (by kernel_rfl) (by kernel_rfl)) (by kernel_rfl) (by kernel_rfl)
set_option maxRecDepth 100000 in
theorem tab_of {W : World} (h : laidMetH Tryz.prog laidL W) : Tab W := by
  rw [MakeChecks.laidMetH_plain _ _ _ (by kernel_rfl)] at h
  have h2 := laidMet.tail h
  exact Lib.tabIs_of_head (n := 256) gTab tTab Tryz.underlying158 Tryz.underlying5 (by kernel_rfl) (by kernel_rfl) h2
end Go.Proofs.YtdekicijinmakaaGreatDoor
