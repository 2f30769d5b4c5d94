/- RoutesTexts: the programs that are given are right for layer 8: the call returns true. No conditions. -/
import Derived.Test.YtdkboeiohhijhaaGreatDoorSf
import Derived.Test.YtdkboeiohhijhaaGreatDoorAxC
import Derived.Test.YtdkboeiohhijhaaGreatDoorCards
import Derived.Test.YtdkboeiohhijhaaGreatDoorTie
import Derived.ChangeVars
import Derived.JoinedOf
import Derived.RowKitTokens
import Derived.LaidLaws
import Derived.Lay
import Derived.ProofKit

namespace Go.Proofs.YtdkboeiohhijhaaGreatDoor
open Go.ChangeShapes Go.WideShapes Go.RowKit Go.Ax

theorem Tryz.own : ownKnob Tryz.prog.godebug = none := by kernel_rfl

theorem law_calls (w : World) : Calls Tryz.prog 3 #[] w (fun e w' => e = .returned (.bool true) ∧ Below w.heap.size w w') :=
  closed_law allOk2 rfl (fi := (env.fs.find 3).getD fiAwake) (by kernel_rfl) (by kernel_rfl) run_law w

noncomputable def laidWorld (os : Os) : World := World.laidAll Tryz.prog os Rows.routesTextsRow.laid

set_option maxRecDepth 100000 in
theorem law_lifted (os : Os) (started : os.Started) (H : Type) (enc : TypeId × Value → H) :
    ReturnsInHanded {} Tryz.checked os 3 .any (fun w args => (Rows.routesTextsSpec.pre enc Tryz.prog Tryz.f3 [] false w args ∧ laidMetH Tryz.prog Rows.routesTextsRow.laid w) ∧ sizedMet enc Tryz.prog Tryz.f3 (OpenSpec.ofChange Rows.routesTextsSpec) false w args)
      (Rows.routesTextsSpec.post enc Tryz.prog Tryz.f3 false true false false) := by
  refine returnsInHanded_of_change_and (C := Tryz.checked) (X := fun w _ => laidMetH Tryz.prog Rows.routesTextsRow.laid w) (fun _ _ _ hh h => h.of_heap hh) Tryz.own started (by kernel_rfl) Tryz.func3
    (ChangeSpec.witness_at (enc := enc) (C := Tryz.checked) (os := os) (X := fun w _ => laidMetH Tryz.prog Rows.routesTextsRow.laid w) false (laidWorld os) #[] 8 (World.laidAll_os _ _ _) (by kernel_rfl) (by kernel_rfl) (by kernel_rfl) (by kernel_rfl) (by kernel_rfl) (laidMet_laidAll _ (by kernel_rfl) (by kernel_rfl))) ?_
  intro W base args ds gs before hval0 hW _ _ hL _
  have hW' := hW
  obtain ⟨p, q, hA0, hV0, rfl, hfz, hnd⟩ := hW
  have hA : DataW.TrodAll enc Tryz.prog W 0 (fun _ => true) true Tryz.f3.params.toList args.toList ds p := hA0
  rw [Tryz.params3] at hA
  have hV : DataW.TrodVars enc Tryz.prog W (fun _ => true) [] gs q := hV0
  obtain ⟨h1, rfl, rfl⟩ := trodAll_nil hA
  obtain ⟨rfl, rfl⟩ : gs = [] ∧ q = [] := by
    cases gs with
    | nil => exact ⟨rfl, hV⟩
    | cons g r => exact absurd hV (by intro h; cases h)
  have h0 : args = #[] := by simpa using h1
  subst h0
  refine (law_calls W).mono fun e W' ⟨he, hb⟩ => ?_
  subst he
  exact ⟨_, rfl, post_below (pa := []) (pv := []) hW' (fun _ _ _ => trodAll_mk1 (shut_bool Tryz.underlying4 true)) (fun sp _ => by rw [Tryz.params3]; rfl) (fun _ _ => rfl) rfl hb
    (ok_one (by kernel_rfl) rfl (okWide_bool_mk Tryz.underlying4 true))⟩

theorem f_holds : Rows.RoutesTextsSaid :=
  OpenClaim.holds_of_wide 3 Tryz.f3 rfl rfl rfl rfl rfl rfl rfl ⟨rfl, rfl, rfl, rfl, rfl⟩ rfl rfl rfl rfl rfl (by kernel_rfl) Tryz.func3 (by kernel_rfl)
    (of_decide_eq_true (by kernel_rfl)) (by unfold Func.isWrapper; rw [if_neg (of_decide_eq_false (by kernel_rfl))]; exact ⟨rfl, rfl⟩)
    (fun os started H enc _ => law_lifted os started H enc)

theorem card_holds : Rows.RoutesTextsCardSaid :=
  Claim7.holds_tied_plain_at .later [] [.data, .data, .data, .sentinel, .sentinel] true (true, "ad2cca089ffc8d86a5fb2ab61847c87db0aa42077a65c91d3fd043578aed2c8b") true
    f_holds (fun _ h => by cases h) (by kernel_rfl) (fun _ h => by cases h) routesTexts_row_tie rfl ⟨rfl, rfl⟩ (by kernel_rfl) rfl
    (fun f fn hf hfn => by
      obtain rfl : f = 3 := Option.some.inj ((show Tryz.prog.funcNamed "beaconry/beaconrylaw21.RoutesTexts" = some 3 by kernel_rfl).symm.trans hf) |>.symm
      obtain rfl : fn = Tryz.f3 := (Option.some.inj (Tryz.func3.symm.trans hfn)).symm
      exact ⟨by kernel_rfl, fun j t ht => by
        rw [Tryz.params3] at ht
        simp at ht⟩)
    (by kernel_rfl)
end Go.Proofs.YtdkboeiohhijhaaGreatDoor
