/- The live part of the law, by the kernel's run of the evaluator: a contract that is told.
   Conditions: none. -/
import Derived.Test.YtegmeohmkmjbhaaGreatDoorQTy
set_option linter.unusedVariables false
set_option linter.unusedSimpArgs false
namespace Go.Proofs.YtegmeohmkmjbhaaGreatDoor
open Go Go.Ev
noncomputable def tab : List (FuncId × Xk) := [(148, .noEscape), (172, .indexByte), (149, .makeNoZero 5), (50, .mapsClone)]
/-- strings.asciiSpace's cells. -/
def asc : List Value := (List.range 256).map fun i => .int .u8 (if i == 9 || i == 10 || i == 11 || i == 12 || i == 13 || i == 32 then 1 else 0)
/-- What the live part reads: one table. -/
noncomputable def K0 : AHeap := { t := (T.e : T AObj).put 0 (.ro fun i => nth asc i), next := 7, low := 7 }
noncomputable def isTrue : Option (Value × AHeap) → Bool
  | some (.bool b, K) => b && Nat.ble 7 K.low
  | _ => false
set_option maxRecDepth 100000
theorem alive_run : isTrue (evCall P (extX P tab) (ev P (extX P tab) 1000) 7 [] K0) = true := by kernel_rfl
end Go.Proofs.YtegmeohmkmjbhaaGreatDoor
