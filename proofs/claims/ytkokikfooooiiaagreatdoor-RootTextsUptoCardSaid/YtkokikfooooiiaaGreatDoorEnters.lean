import Derived.Test.YtkokikfooooiiaaGreatDoorProg
import Derived.Handy
import Derived.LoopTactic
import Derived.Outline
import Derived.WalkSpells
import Derived.WalkLawsBesides
import Derived.Laws.Twins
namespace Go.Proofs.YtkokikfooooiiaaGreatDoor
open Go.RowKit

theorem enters_lshVU (args : Array Value) (w : World) : (callFunc 86 args).run Tryz.prog w = .ok (.enter 47 args) w :=
  run_callFunc_twin (twin := "math/big.lshVU_g") Tryz.func86 (by kernel_rfl) (by kernel_rfl) (by kernel_rfl) (by kernel_rfl) Tryz.func47 (by kernel_rfl) (by kernel_rfl) (by kernel_rfl) args w
theorem enters_addVV (args : Array Value) (w : World) : (callFunc 88 args).run Tryz.prog w = .ok (.enter 45 args) w :=
  run_callFunc_twin (twin := "math/big.addVV_g") Tryz.func88 (by kernel_rfl) (by kernel_rfl) (by kernel_rfl) (by kernel_rfl) Tryz.func45 (by kernel_rfl) (by kernel_rfl) (by kernel_rfl) args w
theorem enters_subVV (args : Array Value) (w : World) : (callFunc 91 args).run Tryz.prog w = .ok (.enter 46 args) w :=
  run_callFunc_twin (twin := "math/big.subVV_g") Tryz.func91 (by kernel_rfl) (by kernel_rfl) (by kernel_rfl) (by kernel_rfl) Tryz.func46 (by kernel_rfl) (by kernel_rfl) (by kernel_rfl) args w
theorem enters_mulAddVWW (args : Array Value) (w : World) : (callFunc 140 args).run Tryz.prog w = .ok (.enter 49 args) w :=
  run_callFunc_twin (twin := "math/big.mulAddVWW_g") Tryz.func140 (by kernel_rfl) (by kernel_rfl) (by kernel_rfl) (by kernel_rfl) Tryz.func49 (by kernel_rfl) (by kernel_rfl) (by kernel_rfl) args w

end Go.Proofs.YtkokikfooooiiaaGreatDoor
