/- Runs of the program on the texts that it gives, carried out. No conditions. -/
import Derived.Test.YtdkboeiohhijhaaGreatDoorSd

namespace Go.Proofs.YtdkboeiohhijhaaGreatDoor
open Go Go.Ax
set_option maxRecDepth 100000
theorem rTextpath : Runs env1 6 fiText aTextpath vTextpath := runs_fast (h := ⟨[], []⟩) 100000 (by kernel_rfl) (by kernel_rfl)
theorem rCheckpath : Runs env1 7 fiCheck aCheckpath vCheckpath := runs_fast (h := ⟨[], []⟩) 100000 (by kernel_rfl) (by kernel_rfl)
theorem rStratapath : Runs env1 8 fiStrata aStratapath vStratapath := runs_fast (h := ⟨[], []⟩) 100000 (by kernel_rfl) (by kernel_rfl)
theorem rTextdistance : Runs env1 6 fiText aTextdistance vTextdistance := runs_fast (h := ⟨[], []⟩) 100000 (by kernel_rfl) (by kernel_rfl)
theorem rCheckdistance : Runs env1 7 fiCheck aCheckdistance vCheckdistance := runs_fast (h := ⟨[], []⟩) 100000 (by kernel_rfl) (by kernel_rfl)
theorem rStratadistance : Runs env1 8 fiStrata aStratadistance vStratadistance := runs_fast (h := ⟨[], []⟩) 100000 (by kernel_rfl) (by kernel_rfl)
theorem rTextreach : Runs env1 6 fiText aTextreach vTextreach := runs_fast (h := ⟨[], []⟩) 100000 (by kernel_rfl) (by kernel_rfl)
theorem rCheckreach : Runs env1 7 fiCheck aCheckreach vCheckreach := runs_fast (h := ⟨[], []⟩) 100000 (by kernel_rfl) (by kernel_rfl)
theorem rStratareach : Runs env1 8 fiStrata aStratareach vStratareach := runs_fast (h := ⟨[], []⟩) 100000 (by kernel_rfl) (by kernel_rfl)
theorem rAwake : Runs env1 4 fiAwake [] (.bool true) := runs_fast (h := ⟨[], []⟩) 100000 (by kernel_rfl) (by kernel_rfl)
end Go.Proofs.YtdkboeiohhijhaaGreatDoor
