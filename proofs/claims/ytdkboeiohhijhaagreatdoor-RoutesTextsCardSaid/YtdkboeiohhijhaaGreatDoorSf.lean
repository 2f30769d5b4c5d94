/- Runs of the program on the texts that it gives, carried out. No conditions. -/
import Derived.Test.YtdkboeiohhijhaaGreatDoorSe1
import Derived.Test.YtdkboeiohhijhaaGreatDoorSppath
import Derived.Test.YtdkboeiohhijhaaGreatDoorSpdistance
import Derived.Test.YtdkboeiohhijhaaGreatDoorSpreach
import Derived.Test.YtdkboeiohhijhaaGreatDoorSc

namespace Go.Proofs.YtdkboeiohhijhaaGreatDoor
open Go Go.Ax
set_option maxRecDepth 100000
theorem gText : GoodS Tryz.prog .leaf 6 (isoSum fiText.dataArgs (memo [(aTextpath, vTextpath), (aTextdistance, vTextdistance), (aTextreach, vTextreach)])) := good_iso allOk1 (fi := fiText) (by kernel_rfl) (by kernel_rfl) (by kernel_rfl) (fun _ _ _ h => AllRuns.memo (.cons rTextpath (.cons rTextdistance (.cons rTextreach .nil))) h) hgb
theorem gParse : GoodS Tryz.prog .leaf 5 (isoSum fiParse.dataArgs (memo [(aParsepath, vParsepath), (aParsedistance, vParsedistance), (aParsereach, vParsereach)])) := good_iso allOk1 (fi := fiParse) (by kernel_rfl) (by kernel_rfl) (by kernel_rfl) (fun _ _ _ h => AllRuns.memo (.cons rParsepath (.cons rParsedistance (.cons rParsereach .nil))) h) hgb
theorem gCheck : GoodS Tryz.prog .leaf 7 (isoSum fiCheck.dataArgs (memo [(aCheckpath, vCheckpath), (aCheckdistance, vCheckdistance), (aCheckreach, vCheckreach)])) := good_iso allOk1 (fi := fiCheck) (by kernel_rfl) (by kernel_rfl) (by kernel_rfl) (fun _ _ _ h => AllRuns.memo (.cons rCheckpath (.cons rCheckdistance (.cons rCheckreach .nil))) h) hgb
theorem gStrata : GoodS Tryz.prog .leaf 8 (isoSum fiStrata.dataArgs (memo [(aStratapath, vStratapath), (aStratadistance, vStratadistance), (aStratareach, vStratareach)])) := good_iso allOk1 (fi := fiStrata) (by kernel_rfl) (by kernel_rfl) (by kernel_rfl) (fun _ _ _ h => AllRuns.memo (.cons rStratapath (.cons rStratadistance (.cons rStratareach .nil))) h) hgb
theorem gAwake : GoodS Tryz.prog .leaf 4 (isoSum fiAwake.dataArgs (memo [([], .bool true)])) := good_iso allOk1 (fi := fiAwake) (by kernel_rfl) (by kernel_rfl) (by kernel_rfl) (fun _ _ _ h => AllRuns.memo (.cons rAwake .nil) h) hgb
noncomputable def env2 : Env := (((((env1.add 6 (isoSum fiText.dataArgs (memo [(aTextpath, vTextpath), (aTextdistance, vTextdistance), (aTextreach, vTextreach)]))).add 5 (isoSum fiParse.dataArgs (memo [(aParsepath, vParsepath), (aParsedistance, vParsedistance), (aParsereach, vParsereach)]))).add 7 (isoSum fiCheck.dataArgs (memo [(aCheckpath, vCheckpath), (aCheckdistance, vCheckdistance), (aCheckreach, vCheckreach)]))).add 8 (isoSum fiStrata.dataArgs (memo [(aStratapath, vStratapath), (aStratadistance, vStratadistance), (aStratareach, vStratareach)]))).add 4 (isoSum fiAwake.dataArgs (memo [([], .bool true)])))
theorem allOk2 : AllOk env2 := ((((allOk1.add gText).add gParse).add gCheck).add gStrata).add gAwake
theorem run_law : callF env2 100000 (.func 3) [] ⟨[], []⟩ = .ret (.bool true, ⟨[], []⟩) := by kernel_rfl
end Go.Proofs.YtdkboeiohhijhaaGreatDoor
