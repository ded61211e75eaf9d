/- WnE1 -/
import Derived.Test.YtmelcflkbfhohaaGreatDoorPart12
set_option linter.unusedVariables false
set_option linter.unusedSimpArgs false
namespace Go.Proofs.YtmelcflkbfhohaaGreatDoor.W.E
section
set_option maxRecDepth 100000
theorem end20:endQ 20:=by delta endQ QTF;kernel_rfl
theorem fin20:finQ 20:=by delta finQ QTF;kernel_rfl
theorem end21:endQ 21:=by delta endQ QTF;kernel_rfl
theorem fin21:finQ 21:=by delta finQ QTF;kernel_rfl
theorem end22:endQ 22:=by delta endQ QTF;kernel_rfl
theorem fin22:finQ 22:=by delta finQ QTF;kernel_rfl
theorem end23:endQ 23:=by delta endQ QTF;kernel_rfl
theorem fin23:finQ 23:=by delta finQ QTF;kernel_rfl
theorem end24:endQ 24:=by delta endQ QTF;kernel_rfl
theorem fin24:finQ 24:=by delta finQ QTF;kernel_rfl
theorem end25:endQ 25:=by delta endQ QTF;kernel_rfl
theorem fin25:finQ 25:=by delta finQ QTF;kernel_rfl
theorem end26:endQ 26:=by delta endQ QTF;kernel_rfl
theorem fin26:finQ 26:=by delta finQ QTF;kernel_rfl
theorem end27:endQ 27:=by delta endQ QTF;kernel_rfl
theorem fin27:finQ 27:=by delta finQ QTF;kernel_rfl
theorem end28:endQ 28:=by delta endQ QTF;kernel_rfl
theorem fin28:finQ 28:=by delta finQ QTF;kernel_rfl
theorem end29:endQ 29:=by delta endQ QTF;kernel_rfl
theorem fin29:finQ 29:=by delta finQ QTF;kernel_rfl
theorem end30:endQ 30:=by delta endQ QTF;kernel_rfl
theorem fin30:finQ 30:=by delta finQ QTF;kernel_rfl
theorem end31:endQ 31:=by delta endQ QTF;kernel_rfl
theorem fin31:finQ 31:=by delta finQ QTF;kernel_rfl
theorem end32:endQ 32:=by delta endQ QTF;kernel_rfl
theorem fin32:finQ 32:=by delta finQ QTF;kernel_rfl
theorem end33:endQ 33:=by delta endQ QTF;kernel_rfl
theorem fin33:finQ 33:=by delta finQ QTF;kernel_rfl
theorem end34:endQ 34:=by delta endQ QTF;kernel_rfl
theorem fin34:finQ 34:=by delta finQ QTF;kernel_rfl
theorem end35:endQ 35:=by delta endQ QTF;kernel_rfl
theorem fin35:finQ 35:=by delta finQ QTF;kernel_rfl
theorem end36:endQ 36:=by delta endQ QTF;kernel_rfl
theorem fin36:finQ 36:=by delta finQ QTF;kernel_rfl
theorem end37:endQ 37:=by delta endQ QTF;kernel_rfl
theorem fin37:finQ 37:=by delta finQ QTF;kernel_rfl
theorem end38:endQ 38:=by delta endQ QTF;kernel_rfl
theorem fin38:finQ 38:=by delta finQ QTF;kernel_rfl
theorem end39:endQ 39:=by delta endQ QTF;kernel_rfl
theorem fin39:finQ 39:=by delta finQ QTF;kernel_rfl
end
end Go.Proofs.YtmelcflkbfhohaaGreatDoor.W.E
