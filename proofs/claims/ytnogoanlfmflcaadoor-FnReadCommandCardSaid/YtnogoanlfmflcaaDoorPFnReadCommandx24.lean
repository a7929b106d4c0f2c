/- spec_CommandText by hand (its printed text does not build): what it answers, over its model (the texts A of this claim hold the walk). -/
import Derived.Test.YtnogoanlfmflcaaDoorPFnReadCommandx0
import Derived.Test.YtnogoanlfmflcaaDoorAFnReadCommand0
namespace Go.Proofs.YtnogoanlfmflcaaDoor.PFnReadCommand
open Go.RowKit Go.Proofs.YtnogoanlfmflcaaDoorW.PrintWords Go.Proofs.YtnogoanlfmflcaaDoorW.PrintLast Go.Proofs.YtnogoanlfmflcaaDoorW.PrintMore
set_option linter.unusedVariables false
def spec_CommandText.f (k : Nat) (a0_0 : Int) (a0_1 : ByteArray) (a0_2 : Int) (a0_3 : Int) : Option ByteArray := some (cmtM a0_0 a0_1 a0_2 a0_3)
theorem spec_CommandText.mono : ∀ a0 a1 a2 a3 k, LeO (spec_CommandText.f k a0 a1 a2 a3) (spec_CommandText.f (k + 1) a0 a1 a2 a3) := fun _ _ _ _ _ => LeO.refl _
theorem spec_CommandText.calls (k : Nat) (a0_0 : Int) (a0_1 : ByteArray) (a0_2 : Int) (a0_3 : Int) (r : ByteArray) (w : World) (h : spec_CommandText.f k a0_0 a0_1 a0_2 a0_3 = some r) :
    Calls Tryd.prog 14 #[.agg #[.int .i64 a0_0, .string a0_1, .int .i64 a0_2, .int .i64 a0_3]] w fun e w' => e = .returned (.string r) ∧ Below w.heap.size w w' := by
  obtain rfl := Option.some.inj h
  exact spec_CommandText.M a0_0 a0_1 a0_2 a0_3 w
end Go.Proofs.YtnogoanlfmflcaaDoor.PFnReadCommand
