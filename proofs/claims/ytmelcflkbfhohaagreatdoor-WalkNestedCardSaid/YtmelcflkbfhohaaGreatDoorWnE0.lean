/- WnE0 -/
import Derived.Test.YtmelcflkbfhohaaGreatDoorPart12
set_option linter.unusedVariables false
set_option linter.unusedSimpArgs false
namespace Go.Proofs.YtmelcflkbfhohaaGreatDoor.W.E
section
set_option maxRecDepth 100000
theorem end0:endQ 0:=by delta endQ QTF;kernel_rfl
theorem fin0:finQ 0:=by delta finQ QTF;kernel_rfl
theorem end1:endQ 1:=by delta endQ QTF;kernel_rfl
theorem fin1:finQ 1:=by delta finQ QTF;kernel_rfl
theorem end2:endQ 2:=by delta endQ QTF;kernel_rfl
theorem fin2:finQ 2:=by delta finQ QTF;kernel_rfl
theorem end3:endQ 3:=by delta endQ QTF;kernel_rfl
theorem fin3:finQ 3:=by delta finQ QTF;kernel_rfl
theorem end4:endQ 4:=by delta endQ QTF;kernel_rfl
theorem fin4:finQ 4:=by delta finQ QTF;kernel_rfl
theorem end5:endQ 5:=by delta endQ QTF;kernel_rfl
theorem fin5:finQ 5:=by delta finQ QTF;kernel_rfl
theorem end6:endQ 6:=by delta endQ QTF;kernel_rfl
theorem fin6:finQ 6:=by delta finQ QTF;kernel_rfl
theorem end7:endQ 7:=by delta endQ QTF;kernel_rfl
theorem fin7:finQ 7:=by delta finQ QTF;kernel_rfl
theorem end8:endQ 8:=by delta endQ QTF;kernel_rfl
theorem fin8:finQ 8:=by delta finQ QTF;kernel_rfl
theorem end9:endQ 9:=by delta endQ QTF;kernel_rfl
theorem fin9:finQ 9:=by delta finQ QTF;kernel_rfl
theorem end10:endQ 10:=by delta endQ QTF;kernel_rfl
theorem fin10:finQ 10:=by delta finQ QTF;kernel_rfl
theorem end11:endQ 11:=by delta endQ QTF;kernel_rfl
theorem fin11:finQ 11:=by delta finQ QTF;kernel_rfl
theorem end12:endQ 12:=by delta endQ QTF;kernel_rfl
theorem fin12:finQ 12:=by delta finQ QTF;kernel_rfl
theorem end13:endQ 13:=by delta endQ QTF;kernel_rfl
theorem fin13:finQ 13:=by delta finQ QTF;kernel_rfl
theorem end14:endQ 14:=by delta endQ QTF;kernel_rfl
theorem fin14:finQ 14:=by delta finQ QTF;kernel_rfl
theorem end15:endQ 15:=by delta endQ QTF;kernel_rfl
theorem fin15:finQ 15:=by delta finQ QTF;kernel_rfl
theorem end16:endQ 16:=by delta endQ QTF;kernel_rfl
theorem fin16:finQ 16:=by delta finQ QTF;kernel_rfl
theorem end17:endQ 17:=by delta endQ QTF;kernel_rfl
theorem fin17:finQ 17:=by delta finQ QTF;kernel_rfl
theorem end18:endQ 18:=by delta endQ QTF;kernel_rfl
theorem fin18:finQ 18:=by delta finQ QTF;kernel_rfl
theorem end19:endQ 19:=by delta endQ QTF;kernel_rfl
theorem fin19:finQ 19:=by delta finQ QTF;kernel_rfl
end
end Go.Proofs.YtmelcflkbfhohaaGreatDoor.W.E
