/- WnE2 -/
import Derived.Test.YtmelcflkbfhohaaGreatDoorPart12
set_option linter.unusedVariables false
set_option linter.unusedSimpArgs false
namespace Go.Proofs.YtmelcflkbfhohaaGreatDoor.W.E
section
set_option maxRecDepth 100000
theorem end40:endQ 40:=by delta endQ QTF;kernel_rfl
theorem fin40:finQ 40:=by delta finQ QTF;kernel_rfl
theorem end41:endQ 41:=by delta endQ QTF;kernel_rfl
theorem fin41:finQ 41:=by delta finQ QTF;kernel_rfl
theorem end42:endQ 42:=by delta endQ QTF;kernel_rfl
theorem fin42:finQ 42:=by delta finQ QTF;kernel_rfl
theorem end43:endQ 43:=by delta endQ QTF;kernel_rfl
theorem fin43:finQ 43:=by delta finQ QTF;kernel_rfl
theorem end44:endQ 44:=by delta endQ QTF;kernel_rfl
theorem fin44:finQ 44:=by delta finQ QTF;kernel_rfl
theorem end45:endQ 45:=by delta endQ QTF;kernel_rfl
theorem fin45:finQ 45:=by delta finQ QTF;kernel_rfl
theorem end46:endQ 46:=by delta endQ QTF;kernel_rfl
theorem fin46:finQ 46:=by delta finQ QTF;kernel_rfl
theorem end47:endQ 47:=by delta endQ QTF;kernel_rfl
theorem fin47:finQ 47:=by delta finQ QTF;kernel_rfl
theorem end48:endQ 48:=by delta endQ QTF;kernel_rfl
theorem fin48:finQ 48:=by delta finQ QTF;kernel_rfl
theorem end49:endQ 49:=by delta endQ QTF;kernel_rfl
theorem fin49:finQ 49:=by delta finQ QTF;kernel_rfl
theorem end50:endQ 50:=by delta endQ QTF;kernel_rfl
theorem fin50:finQ 50:=by delta finQ QTF;kernel_rfl
theorem end51:endQ 51:=by delta endQ QTF;kernel_rfl
theorem fin51:finQ 51:=by delta finQ QTF;kernel_rfl
theorem end52:endQ 52:=by delta endQ QTF;kernel_rfl
theorem fin52:finQ 52:=by delta finQ QTF;kernel_rfl
theorem end53:endQ 53:=by delta endQ QTF;kernel_rfl
theorem fin53:finQ 53:=by delta finQ QTF;kernel_rfl
theorem end54:endQ 54:=by delta endQ QTF;kernel_rfl
theorem fin54:finQ 54:=by delta finQ QTF;kernel_rfl
theorem end55:endQ 55:=by delta endQ QTF;kernel_rfl
theorem fin55:finQ 55:=by delta finQ QTF;kernel_rfl
theorem end56:endQ 56:=by delta endQ QTF;kernel_rfl
theorem fin56:finQ 56:=by delta finQ QTF;kernel_rfl
theorem end57:endQ 57:=by delta endQ QTF;kernel_rfl
theorem fin57:finQ 57:=by delta finQ QTF;kernel_rfl
theorem end58:endQ 58:=by delta endQ QTF;kernel_rfl
theorem fin58:finQ 58:=by delta finQ QTF;kernel_rfl
end
end Go.Proofs.YtmelcflkbfhohaaGreatDoor.W.E
