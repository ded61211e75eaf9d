/- EvD EvZ Lw RowK -/
import Derived.Test.YtbbokgpklihkoaaGreatDoorPart6
import Derived.Test.YtbbokgpklihkoaaGreatDoorPart24
import Derived.Test.YtbbokgpklihkoaaGreatDoorRows
import Derived.WalkKit
import Derived.ProofKit
import Derived.OpenShut
import Derived.ShutString
import Derived.ChangeOld
import Derived.ChangeVars
import Derived.Below
import Derived.JoinedOf
import Derived.LaidLaws
import Derived.LaidHandle
import Derived.HandedShaped
import Derived.Stop.Joined
import Derived.Stop.LaidErr
import Derived.Lib.LaidU8
set_option linter.unusedVariables false
set_option linter.unusedSimpArgs false
namespace Go.Proofs.YtbbokgpklihkoaaGreatDoor.W.E
section
set_option maxRecDepth 100000
open Go.RowKit
def pl3:T (List Nat):=(.n (.n (.n .e (some [1,3,4,6,8,10,12,16,18,20,22,24,15,27,29,31,33]) .e) none .e) none .e)
def pl4:T (List Nat):=(.n .e none (.n (.n (.n .e (some [1,3,5,7,8,10,13,15,17,19,21,23,25,27,29,30,33,35,37,39,41,43,44,46,49,51,53,55,57,59,61,63,65,66,69,71,73,75,77,79,80,82,85,87,89,91,93,95,97,99,101,103,105,107,109,111]) .e) none .e) none .e))
def pl9:T (List Nat):=(.n (.n (.n (.n .e none (.n .e (some [0,2,4,6,8,10,12,22,24,15,17,18,20,27,29]) .e)) (some [0,2,4,6,9,11,13,15,17]) .e) none (.n (.n (.n .e (some [0,2,4,6,8,10,20,22,13,15,16,18,25,27]) .e) none .e) none (.n .e (some [0,2,4,6,8,18,20,11,13,14,16,23,25]) .e))) none (.n (.n .e none (.n .e none (.n .e none (.n .e (some [0,2,4,6,8,10,13,15,17,19]) .e)))) none (.n (.n .e none (.n .e none (.n .e (some [0,2,4,6,8,10,12,22,24,15,17,18,20,27,29]) .e))) none (.n .e none (.n (.n .e (some [0,2,5,7,9,11]) .e) (some [0,2,4,6,8,10,12,22,24,15,17,18,20,27,29]) (.n .e (some [0,2,4,6,8,10,12,15,17,19,21]) .e))))))
def pl13:T (List Nat):=(.n (.n (.n .e (some [0,2,4,6,8,20,11,13,15,16,18,23,25]) (.n .e (some [0,2,4,6,8,18,11,13,14,16,21,23]) .e)) (some [0,2,4,6,8,18,11,13,14,16,21,23]) (.n .e (some [0,2,4,6,8,18,11,13,14,16,21,23]) (.n .e (some [1,3,5,6,8,10,12,15,17,19,21]) .e))) none (.n (.n .e (some [0,2,4,6,9,11,13]) .e) (some [0,2,4,6,8,10,12,14,17,19,21]) (.n .e none (.n .e (some [0,2,4,6,8,18,11,13,14,16,21,23]) .e))))
def pl15:T (List Nat):=(.n .e none (.n .e (some [0,2,4,6,8,11,13,15]) .e))
def pl17:T (List Nat):=(.n .e none (.n .e none (.n (.n .e (some [0,2,4,6,8,11,13,15,16,18,21]) .e) none (.n .e none (.n .e (some [0,2,4,8,10,12,7,15]) .e)))))
def pl18:T (List Nat):=(.n (.n .e none (.n .e (some [0,2,4,6,8,10,12,14,16,18,20,23,25,27,29]) .e)) none .e)
def pl19:T (List Nat):=(.n .e none (.n (.n (.n .e (some [0,2,4,6,8,11,13,15,17,19]) (.n .e (some [0,2,4,6,8,10,14,16,18,20,13,23]) .e)) none .e) none (.n .e none (.n .e none (.n .e (some [0,2,4,6,8,10,12,22,24,15,17,18,20,27,29]) .e)))))
def pl20:T (List Nat):=(.n .e none (.n (.n .e (some [0,2,4,6,8,10,12,14,16,18,20,22,24,27,29,31,33,35,37,39,41,43]) .e) none .e))
def pl21:T (List Nat):=(.n (.n (.n .e (some [0,2,4,6,8,11,13,15,17]) .e) none .e) none .e)
def pl22:T (List Nat):=(.n .e none (.n .e (some [0,2,4,6,9,11,13,15,17,19]) .e))
def pl23:T (List Nat):=(.n .e none (.n .e (some [0,2,4,6,8,11,13,15,16,19,21,23]) .e))
def pl24:T (List Nat):=(.n (.n .e none (.n .e (some [0,2,4,6,8,10,12,16,15,19,21,22,25,27,29]) .e)) none (.n .e none (.n .e (some [0,2,4,8,7,11,13,15,17]) .e)))
def pl25:T (List Nat):=(.n (.n .e none (.n .e (some [0,2,4,6,8,10,12,16,15,19,21,22,25,27,29]) .e)) none (.n .e none (.n .e (some [0,2,4,8,7,11,13,15,17]) .e)))
def pl28:T (List Nat):=(.n .e none (.n (.n .e (some [0,2,4,6,8,10,12,16,18,20,26,15,23,25,29]) .e) none .e))
def pl29:T (List Nat):=(.n (.n (.n .e (some [0,2,4,6,8,10,13,15,16,19,21,23]) .e) none .e) none (.n (.n .e (some [0,2,4,6,8,10,13,15,17,19,21,23]) .e) none .e))
def pl30:T (List Nat):=(.n .e none (.n .e (some [0,2,4,6,8,10,14,16,13,19,21,23,25]) .e))
def pl31:T (List Nat):=(.n .e none (.n .e (some [0,2,4,6,8,10,14,13,17,19,21]) .e))
def pl32:T (List Nat):=(.n (.n .e none (.n .e (some [0,2,4,6,8,10,14,13,17,19,20,23,25,27]) .e)) none (.n .e none (.n .e (some [0,2,4,8,7,11,13,15,17]) .e)))
def pl33:T (List Nat):=(.n .e none (.n .e (some [0,2,4,6,8,10,14,18,13,17,21,23,25,27]) .e))
def pl34:T (List Nat):=(.n .e none (.n .e (some [0,2,4,6,8,10,14,13,17,19,21,23]) .e))
def pl35:T (List Nat):=(.n .e none (.n .e (some [0,2,4,6,8,10,14,18,13,17,21,23,24,27,29,31]) .e))
def pl36:T (List Nat):=(.n (.n .e none (.n .e (some [0,2,4,6,8,10,22,13,15,17,18,20,25,27]) .e)) none (.n .e (some [0,2,4,6,8,10,12,14,16,18,21]) .e))
def pl37:T (List Nat):=(.n .e none (.n .e (some [0,2,4,6,8,10,13,15,17,19]) .e))
def pl38:T (List Nat):=(.n .e none (.n .e (some [0,2,4,6,8,10,12,14,17,19,21,23]) .e))
def pl39:T (List Nat):=(.n .e none (.n .e (some [0,2,4,6,8,10,16,13,14,19,21,23,25]) .e))
def pl40:T (List Nat):=(.n .e none (.n .e (some [0,2,4,6,8,11,13,15,17,19,21,23]) .e))
def pl41:T (List Nat):=(.n (.n .e (some [1,3,5,6,8,10,12,15,17,19,21,23]) .e) none (.n .e (some [0,2,4,6,8,20,11,13,15,16,18,23,25]) .e))
def pl44:T (List Nat):=(.n .e none (.n .e (some [0,2,4,6,8,11,13,15,17,19,21]) .e))
def pl47:T (List Nat):=(.n .e none (.n .e (some [0,2,4,6,8,12,24,11,15,17,19,20,22,27,29]) .e))
def pl49:T (List Nat):=(.n .e none (.n .e (some [0,2,4,6,8,12,11,15,17,19]) .e))
def pl50:T (List Nat):=(.n .e none (.n .e (some [0,2,4,6,9,11,13,15]) (.n .e (some [0,2,4,6,8,10,12,14,16,18,20,26,23,25,29,31,32,35,37,39]) .e)))
def pl51:T (List Nat):=(.n (.n (.n (.n .e (some [0,2,4,7,9,11,13]) .e) none .e) none .e) none (.n (.n .e none (.n .e (some [0,2,4,6,8,10,14,13,17,19]) .e)) none (.n .e none (.n .e (some [0,2,4,6,9,11]) .e))))
def pl53:T (List Nat):=(.n .e none (.n (.n .e (some [0,2,4,6,9,11,13]) .e) none .e))
def pl54:T (List Nat):=(.n (.n (.n .e none (.n .e (some [0,2,4,6,8,11,13,15,17]) .e)) none .e) none (.n (.n (.n .e (some [0,2,4,6,8,10,12,14,24,17,19,20,22,27,29]) .e) none .e) none (.n .e none (.n .e none (.n .e (some [0,2,4,6,9,11,13]) .e)))))
def pl55:T (List Nat):=(.n (.n .e (some [0,2,4,6,8,10,12,14,17,19,21]) (.n .e (some [0,2,4,6,8,10,12,14,17,19,21]) .e)) none .e)
def pl57:T (List Nat):=(.n (.n .e none (.n .e (some [0,2,4,6,8,10,12,14,16,20,30,19,23,25,26,28,33,35]) .e)) none (.n (.n .e (some [0,2,6,5,9,11]) .e) none (.n .e (some [0,2,4,6,8,10,12,14,17,19,21,23,25,26,28,31]) .e)))
def pl58:T (List Nat):=(.n .e none (.n .e none (.n .e none (.n .e (some [0,2,4,6,8,11,13,15,17,18,20,23,25]) .e))))
def pl66:T (List Nat):=(.n (.n .e none (.n .e (some [0,2,4,6,8,14,11,13,17]) .e)) none .e)
def pl67:T (List Nat):=(.n (.n .e none (.n .e none (.n .e (some [0,2,4,8,10,14,16,7,13,19,21,23,24,27,29,31]) .e))) none (.n .e none (.n .e none (.n .e (some [1,3,5,6,9,11,13,15,17,18,20,24,26,23,29,31,33,35]) .e))))
def pl68:T (List Nat):=(.n .e none (.n (.n (.n (.n .e (some [0,2,5,7]) .e) none .e) none .e) none .e))
def pl69:T (List Nat):=(.n .e none (.n (.n .e (some [0,2,4,6,10,12,24,9,15,17,19,20,22,27,29]) .e) none .e))
def pl71:T (List Nat):=(.n (.n .e (some [0,2,4,6,10,12,16,9,15,19,21]) .e) none .e)
def pl72:T (List Nat):=(.n (.n .e (some [0,2,6,8,5,11,13]) .e) none .e)
def pl73:T (List Nat):=(.n .e none (.n .e none (.n (.n .e (some [0,2,4,8,10,14,16,22,7,13,19,21,25,27]) .e) none .e)))
def pl76:T (List Nat):=(.n .e none (.n (.n .e (some [0,2,4,6,8,10,12,14,16,18,20,22,28,25,27,31]) .e) none .e))
def pl77:T (List Nat):=(.n (.n (.n .e (some [0,2,4,6,9,11]) .e) none (.n (.n .e (some [0,2,4,6,8,10,12,14,17,19,21]) .e) none (.n .e (some [0,2,4,6,9,11,13]) .e))) none (.n (.n (.n .e (some [0,2,4,6,8,10,12,14,17,19,21,23]) .e) none .e) none .e))
def pl79:T (List Nat):=(.n (.n (.n .e (some [0,2,5,7,9,11,13]) .e) none (.n (.n .e (some [1,3,5,7,9,10,12,14,16,19,21,23,25]) .e) (some [0,2,4,6,9,11,13]) .e)) none (.n (.n .e (some [0,2,4,6,8,10,16,13,15,19]) .e) none (.n .e (some [0,2,5,7,9,11,13]) .e)))
def pl80:T (List Nat):=(.n (.n (.n (.n .e none (.n .e (some [0,2,4,6,8,10,12,14,24,17,19,20,22,27,29]) .e)) none .e) none (.n .e none (.n (.n .e (some [0,2,4,6,9,11,13]) .e) none .e))) none (.n .e none (.n (.n .e (some [0,2,4,6,8,11,13,15]) (.n .e (some [0,2,4,6,8,11,13,15,17,19,21,23]) .e)) none .e)))
def pl81:T (List Nat):=(.n (.n (.n (.n .e (some [0,2,4,6,8,10,12,14,16,18,21,23,25,27]) (.n .e (some [0,2,4,6,8,10,20,13,15,16,18,23,25]) (.n .e (some [0,2,4,6,9,11,13,15,17]) .e))) none (.n (.n .e none (.n .e (some [0,2,5,7,9]) .e)) (some [0,2,4,6,8,10,13,15,17,19]) .e)) none (.n .e none (.n .e (some [0,2,4,6,8,10,12,15,17,19,21]) (.n .e (some [0,2,4,6,8,10,12,14,17,19,21]) .e)))) none (.n (.n (.n (.n .e (some [0,2,4,6,8,11,13,15]) .e) none .e) none (.n .e none (.n .e none (.n .e (some [0,2,4,6,9,11,13]) .e)))) none (.n (.n (.n .e (some [0,2,4,6,8,10,12,15,17,19,21]) .e) none (.n .e none (.n .e (some [0,2,4,6,8,10,12,14,16,18,22,32,34,21,25,27,28,30,37,39]) .e))) none .e)))
def pl89:T (List Nat):=(.n (.n .e none (.n .e (some [0,2,4,6,9,11,12,15,17,19]) .e)) none .e)
def pl95:T (List Nat):=(.n .e none (.n .e (some [0,4,6,8,10,12,14,16,18,20,3,23,25]) .e))
def pl98:T (List Nat):=(.n (.n .e none (.n (.n .e (some [0,2,5,7]) .e) none .e)) none (.n .e none (.n .e none (.n .e (some [0,2,5,7]) .e))))
def pl99:T (List Nat):=(.n (.n .e none (.n .e (some [0,2,4,6,8,18,11,13,14,16,21,23]) .e)) none (.n (.n .e (some [0,2,4,6,8,11,13,15]) .e) none .e))
def pl103:T (List Nat):=(.n (.n (.n .e (some [0,2,4,6,8,10,12,14,16,18,20,22,24,27,29,31,33,35,37,39]) .e) none .e) none .e)
def pl106:T (List Nat):=(.n (.n .e none (.n .e none (.n (.n .e (some [0,2,4,6,8,10,20,13,15,16,18,23,25]) .e) none .e))) none (.n (.n .e none (.n (.n .e (some [0,2,4,6,8,10,13,15]) .e) none .e)) none .e))
def pl107:T (List Nat):=(.n (.n .e (some [1,3,5,6,8,10,12,15,17,19,21]) .e) none .e)
def pl116:T (List Nat):=(.n (.n .e none (.n .e (some [0,2,4,6,8,10,20,13,15,16,18,23,25]) .e)) none (.n (.n .e (some [0,3,5,6,8,10,12,15,17,18,20,23,25]) .e) (some [0,2,4,6,8,18,11,13,14,16,21,23]) .e))
def pl117:T (List Nat):=(.n (.n (.n .e (some [0,2,4,6,8,12,14,16,11,19,21]) .e) none .e) none .e)
def pl119:T (List Nat):=(.n .e none (.n .e none (.n .e none (.n .e (some [0,2,5,7]) .e))))
def pl122:T (List Nat):=(.n .e none (.n .e (some [0,2,4,6,8,10,12,14,16,20,19,23]) (.n .e (some [0,2,4,6,8,10,12,14,17,19,21]) .e)))
def pl123:T (List Nat):=(.n .e none (.n (.n .e (some [0,2,4,6,9,11,13,15]) .e) none (.n .e (some [0,2,4,6,9,11,13,15]) .e)))
def pl126:T (List Nat):=(.n (.n .e none (.n .e none (.n .e (some [0,2,4,16,7,9,11,12,14,19,21]) .e))) none .e)
def pl128:T (List Nat):=(.n .e none (.n .e none (.n .e (some [0,2,4,8,7,11,13,15]) .e)))
def pl129:T (List Nat):=(.n .e none (.n .e (some [0,3,5,7,9,10,12,15,17,19,21,23]) .e))
def pl130:T (List Nat):=(.n (.n .e none (.n .e (some [0,2,6,8,5,11,13,14,16,19,21]) .e)) none .e)
def pl132:T (List Nat):=(.n .e none (.n (.n (.n .e (some [0,2,4,8,10,14,16,18,7,13,21,23,24,27,29,31]) .e) none .e) none .e))
def pl136:T (List Nat):=(.n .e none (.n .e (some [0,2,4,6,8,10,14,13,17,19]) .e))
def pl137:T (List Nat):=(.n (.n .e none (.n .e (some [0,2,4,6,8,18,11,13,14,16,21,23]) .e)) none (.n (.n .e (some [0,2,4,6,9,11,13]) .e) none .e))
def pl141:T (List Nat):=(.n (.n .e (some [0,2,4,6,8,10,12,14,16,18,22,21,25]) .e) none (.n .e (some [0,2,4,6,8,12,11,15]) .e))
def pl143:T (List Nat):=(.n (.n .e (some [0,2,4,6,9,11,13,15,17,19,21,23,25,27,29,31,33,35,37,39,41,43,45,47,49,51]) (.n .e (some [0,2,4,6,8,10,12,14,16,18,21,23,25]) .e)) none (.n .e (some [0,2,4,6,9,11,13]) (.n .e none (.n .e (some [0,2,4,6,8,11,13,15,17,19]) .e))))
def pl145:T (List Nat):=(.n (.n (.n .e (some [2,4,14,1,7,9,10,12,17,19]) .e) none .e) none (.n (.n .e (some [0,2,4,7,9,11,13]) .e) none (.n .e (some [0,2,4,6,8,10,12,15,17,19]) .e)))
def pl146:T (List Nat):=(.n (.n .e (some [1,3,4,6,8,10,13,15,17,19,21]) (.n .e (some [0,2,4,6,9,11,13,14,16,19]) .e)) none (.n (.n .e (some [0,2,4,6,8,10,12,14,17,19,21]) .e) (some [0,2,4,6,8,18,11,13,14,16,21,23]) (.n (.n .e (some [0,2,4,6,12,9,11,15,17]) .e) none .e)))
def pl149:T (List Nat):=(.n (.n .e (some [0,2,4,6,8,11,13,15,17,19]) (.n .e (some [0,2,4,6,8,10,12,14,16,22,19,21,25]) .e)) none (.n (.n .e (some [0,2,4,6,8,11,13,15,17,19]) .e) none (.n .e (some [0,2,4,6,9,11,13]) .e)))
def pl152:T (List Nat):=(.n .e none (.n .e (some [0,2,4,6,8,10,12,14,16,18,20,22,25,27,29]) (.n .e none (.n .e (some [0,2,4,6,8,11,13,15]) .e))))
def pl153:T (List Nat):=(.n (.n .e (some [0,3,5,6,9,11,13,15,17,19,21,23,25,27,29,31,33,35,36,38,40,42,44,46,49,51]) .e) none .e)
def pl154:T (List Nat):=(.n (.n (.n .e (some [0,2,4,6,9,11,13]) .e) none .e) none (.n (.n .e (some [0,2,4,6,9,11,13]) .e) none (.n .e none (.n .e (some [0,2,4,6,9,11,13]) .e))))
def pl155:T (List Nat):=(.n (.n (.n .e (some [0,2,4,6,8,11,13,15]) .e) none .e) none .e)
def pl157:T (List Nat):=(.n (.n .e (some [0,2,5,7,9,11]) .e) none .e)
def pl159:T (List Nat):=(.n (.n .e (some [0,2,4,6,8,12,14,16,18,20,11,23,25]) .e) none (.n .e (some [0,2,4,6,8,18,11,13,14,16,21,23]) .e))
def pl167:T (List Nat):=(.n .e none (.n (.n .e none (.n .e (some [0,3,5,7,9]) .e)) none .e))
def pl170:T (List Nat):=(.n .e none (.n .e (some [0,2,4,6,8,10,12,14,16,20,19,23]) (.n .e (some [0,2,4,6,8,10,12,14,17,19,21]) .e)))
def pl171:T (List Nat):=(.n (.n .e none (.n .e (some [0,2,4,6,8,10,20,13,15,16,18,23,25]) .e)) none (.n (.n .e (some [0,3,5,6,8,10,12,15,17,18,20,23,25]) .e) (some [0,2,4,6,8,18,11,13,14,16,21,23]) .e))
def pl172:T (List Nat):=(.n (.n (.n .e none (.n .e (some [0,2,4,6,8,12,14,16,18,20,22,11,25,27,29]) .e)) none (.n .e (some [0,2,4,6,9,11,13]) .e)) none .e)
def pl181:T (List Nat):=(.n (.n (.n .e none (.n .e (some [0,2,5,7]) .e)) none (.n .e none (.n .e (some [0,2,4,6,8,10,20,13,15,16,18,23,25]) .e))) none .e)
def pl182:T (List Nat):=(.n (.n (.n .e (some [0,2,4,6,9,11,13]) .e) none (.n .e (some [0,2,4,6,9,11,13]) .e)) none .e)
def pl189:T (List Nat):=(.n (.n .e none (.n .e (some [0,2,4,6,16,9,11,12,14,19,21]) .e)) none .e)
def pl191:T (List Nat):=(.n (.n .e none (.n .e (some [0,2,4,6,8,11,13,15]) .e)) none .e)
def pl193:T (List Nat):=(.n (.n .e (some [1,3,5,6,8,10,13,15,17,19]) .e) none .e)
def pl194:T (List Nat):=(.n .e none (.n .e none (.n .e (some [0,2,4,6,8,11,13]) .e)))
def pl197:T (List Nat):=(.n (.n .e (some [0,2,4,6,9,11,13,15,17,19,21,23,25,27,29,31,33,35,37,39,41,43,45,47,49,51]) .e) none (.n .e (some [0,2,4,6,9,11,13]) .e))
def pl198:T (List Nat):=(.n (.n .e none (.n (.n (.n .e (some [0,2,5,7,9,11,13]) .e) none (.n .e (some [0,2,4,6,8,18,11,13,14,16,21,23]) .e)) none (.n (.n .e (some [0,2,6,5,9,11]) .e) none .e))) none (.n (.n (.n .e none (.n .e (some [0,2,6,5,9,11]) .e)) none .e) none (.n .e none (.n (.n .e (some [0,2,4,6,8,18,11,13,14,16,21,23]) .e) none .e))))
def pl200:T (List Nat):=(.n (.n .e none (.n (.n .e (some [0,2,4,6,8,10,12,15,17,19]) .e) none .e)) none (.n (.n .e none (.n .e (some [0,2,4,6,9,11,13]) .e)) none (.n .e (some [2,1,5,7,9,11,13,15,17,19,20,22,26,28,30,25,33,35,37,39,41,43,44,47,49,51,53]) (.n (.n .e (some [0,2,4,6,8,11,13,15,17,19]) .e) none .e))))
def pl201:T (List Nat):=(.n (.n .e (some [1,3,4,6,8,10,13,15,17,19,21]) (.n (.n .e (some [0,2,4,6,8,14,11,13,17]) .e) none .e)) none (.n (.n .e none (.n .e (some [0,2,4,6,9,11,13,14,16,19]) .e)) (some [0,2,4,6,8,18,11,13,14,16,21,23]) (.n .e (some [0,2,4,6,8,10,12,14,17,19,21]) .e)))
def pl202:T (List Nat):=(.n (.n .e none (.n .e (some [0,2,4,6,8,12,14,11,17,18,20,22,25,27]) .e)) none (.n .e none (.n .e (some [0,2,4,6,9,11,13]) .e)))
def pl204:T (List Nat):=(.n (.n .e (some [0,2,4,6,9,11,13,15,16,18,20,22,24,28,27,31,33,35,37,39,41,43]) (.n .e (some [0,3,5,7,9,11,13,15,17,19,21,23,25,27,28,30,32,34,36,38,41,43]) .e)) none (.n .e (some [0,2,4,6,9,11,13]) .e))
def pl205:T (List Nat):=(.n (.n .e (some [0,2,4,6,9,11,13,15,16,18,20,22,25,27,29,31,33,35,37,39,41]) .e) none (.n (.n .e (some [0,3,5,7,9,11,13,15,17,19,20,22,24,26,28,30,33,35]) .e) (some [0,2,4,6,9,11,13]) .e))
def pl208:T (List Nat):=(.n (.n .e none (.n .e (some [0,2,4,6,8,10,20,22,13,15,16,18,25,27]) .e)) none (.n .e none (.n .e (some [0,2,4,7,9,11,13,15,17]) .e)))
def pl209:T (List Nat):=(.n .e none (.n .e none (.n .e (some [0,2,4,8,7,11,13]) .e)))
def pl210:T (List Nat):=(.n .e none (.n .e (some [0,3,5,7,9,10,12,15,17,19,21,23]) .e))
def pl211:T (List Nat):=(.n (.n .e none (.n .e (some [0,2,4,6,8,10,12,14,16,28,19,21,23,24,26,31,33]) .e)) none (.n .e (some [0,2,4,6,8,10,12,14,16,28,19,21,23,24,26,31,33]) .e))
def pl214:T (List Nat):=(.n (.n .e (some [0,2,4,6,8,10,12,14,16,18,22,21,25]) .e) none (.n .e (some [0,2,4,6,8,12,11,15]) .e))
def pl215:T (List Nat):=(.n (.n (.n (.n (.n .e (some [0,2,4,7,9,11,13]) .e) none .e) none (.n .e none (.n .e (some [0,2,4,7,9,11,13]) .e))) none (.n (.n (.n .e (some [0,2,6,5,9,11]) .e) none .e) none (.n .e (some [1,3,5,6,8,10,12,15,17,19,21]) .e))) none (.n (.n .e none (.n (.n .e (some [0,2,4,6,8,10,12,14,16,18,30,21,23,25,26,28,33,35]) .e) none .e)) none (.n (.n (.n .e (some [0,2,4,6,8,10,12,14,16,18,28,21,23,24,26,31,33]) .e) none .e) none (.n .e (some [0,2,4,6,8,18,11,13,14,16,21,23]) .e))))
def pl216:T (List Nat):=(.n (.n (.n .e (some [0,2,4,6,8,12,11,15]) .e) (some [0,2,4,6,9,11,13,15]) (.n .e none (.n .e (some [0,2,4,6,9,11]) .e))) none (.n (.n .e none (.n .e (some [0,2,4,6,9,11,13]) .e)) none (.n .e (some [0,2,5,7,9]) .e)))
def pl218:T (List Nat):=(.n .e none (.n .e (some [0,2,4,6,10,12,14,16,18,9,21,23]) .e))
def pl221:T (List Nat):=(.n .e none (.n .e none (.n .e (some [0,2,4,6,9,11,13,15]) .e)))
def pl222:T (List Nat):=(.n .e none (.n .e (some [0,2,4,6,9,11,13,14,16,19,21]) .e))
def pl223:T (List Nat):=(.n (.n .e none (.n .e (some [0,2,4,6,8,10,12,15,17,19]) .e)) none .e)
def pl234:T (List Nat):=(.n (.n (.n .e none (.n .e (some [0,2,4,6,8,10,13,15,17,19,21,23,25]) .e)) none .e) none (.n (.n .e none (.n .e (some [0,2,4,6,8,11,13,15,17,19,21]) .e)) (some [0,2,4,6,9,11,13,14,16,19,21]) (.n .e (some [0,2,4,6,8,11,13,15,17]) (.n .e (some [0,2,4,6,8,11,13,15,17,19,21,23,25]) .e))))
def pl238:T (List Nat):=(.n (.n (.n .e none (.n (.n .e (some [0,2,4,6,8,11,13,15,17,19,21,22,24,26,28,30,32,34,36,38,40,43,45,47]) .e) none .e)) none (.n .e none (.n .e none (.n .e (some [0,2,4,6,8,11,13,15,17,19,21,22,24,26,28,30,32,34,36,39,41,43]) .e)))) none (.n (.n .e none (.n .e (some [0,2,4,6,8,11,13,15,17,19]) .e)) none (.n (.n .e (some [0,2,4,6,8,11,13,15,17,19,21]) .e) none .e)))
def pl240:T (List Nat):=(.n (.n (.n .e (some [0,2,4,6,8,10,12,14,16,18,21,23,25]) .e) none .e) none .e)
def pl241:T (List Nat):=(.n .e none (.n (.n .e (some [0,2,4,6,8,11,13,15,17]) .e) none (.n .e none (.n .e (some [0,2,4,6,8,10,13,15,17,19,21,23,25]) .e))))
def pl248:T (List Nat):=(.n .e none (.n .e none (.n .e (some [0,2,4,16,7,9,11,12,14,19,21]) .e)))
def pl251:T (List Nat):=(.n (.n .e none (.n .e (some [0,2,4,8,10,14,16,7,13,19,21,23,24,27,29,31]) .e)) none (.n .e none (.n .e (some [0,3,5,7,8,10,14,16,13,19,21,23,25]) .e)))
def pl256:T (List Nat):=(.n .e none (.n (.n .e none (.n .e (some [0,2,5,7]) .e)) none .e))
def pl259:T (List Nat):=(.n (.n .e (some [0,2,6,8,5,11,13,14,16,19,21]) .e) none .e)
def pl262:T (List Nat):=(.n (.n (.n .e none (.n .e (some [0,2,6,5,9]) .e)) none .e) none .e)
def pl263:T (List Nat):=(.n (.n .e none (.n .e (some [0,2,4,6,8,10,12,15,17,19,21]) .e)) none (.n .e (some [0,2,4,6,9,11,13]) .e))
def pl264:T (List Nat):=(.n (.n .e (some [0,2,5,7,9]) .e) none (.n .e none (.n .e (some [0,2,5,7,9,11]) .e)))
def pl265:T (List Nat):=(.n .e none (.n .e (some [0,2,4,6,8,10,22,13,15,17,18,20,25,27]) .e))
def pl266:T (List Nat):=(.n .e none (.n .e (some [0,2,4,6,8,11,13,15,17]) .e))
def pl267:T (List Nat):=(.n (.n .e none (.n .e (some [0,2,5,7,9,11]) .e)) none (.n .e (some [0,2,4,6,8,10,22,13,15,17,18,20,25,27]) .e))
def pl268:T (List Nat):=(.n .e none (.n (.n .e (some [0,2,4,6,8,14,11,13]) .e) none .e))
def pl269:T (List Nat):=(.n .e none (.n .e none (.n .e (some [0,2,5,7,9,11,13,14,16,19,21]) .e)))
def pl270:T (List Nat):=(.n .e none (.n .e none (.n .e (some [0,2,5,7,9,11,13,15,17]) .e)))
def pl284:T (List Nat):=(.n .e none (.n .e none (.n .e (some [0,2,4,6,8,11,13]) .e)))
def pl290:T (List Nat):=(.n (.n .e none (.n .e (some [0,2,4,6,9,11]) .e)) none (.n .e (some [0,2,4,6,9,11,13,14,16,19,21]) .e))
def pl293:T (List Nat):=(.n .e none (.n .e none (.n .e (some [0,2,4,8,7,11,13,15,17,19]) .e)))
def pl295:T (List Nat):=(.n (.n .e (some [0,2,4,6,8,11,13,15,17,18,20,22,24,26,30,29,33,35,37,38,40,42,44,46,49,51]) .e) none (.n .e (some [0,2,4,6,9,11,13]) .e))
def pl298:T (List Nat):=(.n (.n .e (some [0,3,5,6,9,11,12,14,17,19]) .e) none (.n .e (some [0,2,4,16,7,9,11,12,14,19,21]) .e))
def pl299:T (List Nat):=(.n .e none (.n .e none (.n .e (some [0,3,5,7,8,11,13,15,17]) .e)))
def pl303:T (List Nat):=(.n (.n .e (some [0,2,4,6,9,11,13,15,17]) (.n .e (some [0,2,4,6,9,11,13,15,17]) .e)) none (.n (.n .e (some [0,2,4,6,9,11,13,15,17]) .e) none .e))
def pl305:T (List Nat):=(.n .e none (.n (.n .e none (.n .e (some [0,2,4,6,8,10,12,14,16,18,20,22,24,26,34,29,31,33,37,39]) .e)) none .e))
def pl306:T (List Nat):=(.n .e none (.n (.n (.n .e none (.n .e (some [0,2,5,7]) .e)) none .e) none (.n (.n .e none (.n .e (some [0,3,5,7]) .e)) none .e)))
def pl309:T (List Nat):=(.n .e none (.n (.n .e none (.n .e (some [0,2,6,5,9]) .e)) none .e))
def pl311:T (List Nat):=(.n .e none (.n (.n .e (some [0,2,4,6,8,10,22,13,15,17,18,20,25,27]) .e) none .e))
def pl313:T (List Nat):=(.n (.n (.n (.n .e none (.n .e (some [0,3,5]) .e)) none .e) none (.n (.n .e none (.n .e (some [0,2,4,6,8,10,12,14,16,18,20,30,23,25,26,28,33,35]) .e)) none .e)) none (.n (.n .e none (.n .e (some [1,3,4,6,10,12,9,15,17,19,21,23,25,27,28,30,34,36,33,39,41,43,45]) .e)) none .e))
def pl316:T (List Nat):=(.n (.n .e none (.n .e (some [0,2,4,6,8,10,12,14,18,20,22,24,26,28,30,17,33,35,37,39]) .e)) none .e)
def pl321:T (List Nat):=(.n .e none (.n (.n .e (some [0,2,4,6,8,10,12,14,24,17,19,20,22,27,29]) .e) none .e))
def pl322:T (List Nat):=(.n (.n .e none (.n .e (some [0,2,4,6,9,11,13]) .e)) none (.n (.n .e (some [0,2,4,6,9,11,13,15,17,19]) .e) none .e))
def pl323:T (List Nat):=(.n (.n (.n .e (some [2,4,6,8,1,11,13,15,17]) .e) none .e) none .e)
def pl325:T (List Nat):=(.n (.n .e none (.n .e (some [0,2,4,6,9,11]) .e)) none .e)
def pl327:T (List Nat):=(.n (.n .e (some [0,2,4,6,9,11,13]) .e) none (.n (.n .e (some [0,2,4,6,8,18,11,13,14,16,21,23]) (.n .e (some [0,2,4,6,8,11,13,15,17,19]) .e)) none (.n (.n .e (some [1,3,5,7,8,10,12,14,16,18,21,23,25,27,29,31,33]) .e) (some [0,2,4,6,9,11,13]) .e)))
def pl328:T (List Nat):=(.n (.n .e none (.n .e none (.n .e (some [1,3,5,7,9,11,13,15,17,19,21,23,25,27,29,30,32,34,36,39,41,43,45]) .e))) none .e)
def pl329:T (List Nat):=(.n (.n (.n .e none (.n .e none (.n .e (some [0,2,4,6,8,14,11,13,17]) .e))) none (.n .e none (.n .e none (.n .e (some [0,2,4,6,9,11,13]) .e)))) none (.n (.n (.n .e (some [0,2,4,6,9,11,13]) .e) none .e) none (.n (.n .e none (.n .e (some [0,2,4,6,9,11,13]) .e)) none .e)))
def pl331:T (List Nat):=(.n .e none (.n .e none (.n .e (some [0,2,4,6,9,11]) .e)))
def pl332:T (List Nat):=(.n (.n .e none (.n .e (some [0,2,4,6,8,10,14,13,17]) .e)) none (.n .e (some [0,2,4,6,8,10,20,22,13,15,16,18,25,27]) .e))
def pl333:T (List Nat):=(.n .e none (.n (.n .e (some [0,2,5,7,9,11,13]) (.n .e (some [0,2,5,7,9,11,13]) .e)) none (.n .e (some [0,2,4,6,8,10,12,14,24,17,19,20,22,27,29]) .e)))
def pl334:T (List Nat):=(.n (.n .e none (.n .e (some [0,2,4,6,9,11,13,15,17]) .e)) none (.n .e (some [0,2,4,6,9,11,13,15]) .e))
def pl337:T (List Nat):=(.n (.n .e (some [0,2,4,6,8,12,14,11,17,19]) .e) none (.n .e (some [0,2,4,6,8,18,11,13,14,16,21,23]) .e))
def pl338:T (List Nat):=(.n .e none (.n .e none (.n .e (some [0,2,4,8,10,7,13,15,17,19,21]) .e)))
def pl340:T (List Nat):=(.n .e none (.n .e none (.n .e (some [0,2,4,16,7,9,11,12,14,19,21]) .e)))
def pl345:T (List Nat):=(.n .e none (.n .e (some [0,2,4,6,8,10,12,14,17,19]) (.n .e (some [0,2,4,6,8,10,12,14,17,19,21]) .e)))
def pl346:T (List Nat):=(.n .e none (.n (.n .e none (.n .e (some [0,2,4,7,9,11,13,15]) .e)) none (.n (.n .e (some [1,3,4,6,8,11,13,15,17,19,21]) .e) none .e)))
def pl347:T (List Nat):=(.n (.n (.n .e (some [0,2,6,8,10,12,14,16,18,20,22,5,25,27]) .e) none .e) none .e)
def pl349:T (List Nat):=(.n .e none (.n (.n .e none (.n .e none (.n .e (some [0,2,4,6,8,11,13,15,17]) .e))) none (.n .e none (.n .e none (.n .e (some [0,2,4,6,8,11,13,15,17]) .e)))))
def pl350:T (List Nat):=(.n .e (some [0,2,4,6,8,11,13,15]) .e)
def pl352:T (List Nat):=(.n .e (some [0,2,4,6,8,10,12,14,16,26,19,21,22,24,29,31]) .e)
def pl356:T (List Nat):=(.n .e none (.n .e none (.n .e (some [0,2,4,6,8,10,12,14,16,19,21,23]) .e)))
def pl359:T (List Nat):=(.n .e none (.n (.n (.n .e (some [0,2,5,7,9,11]) .e) none .e) none .e))
def pl363:T (List Nat):=(.n (.n .e none (.n .e (some [0,2,4,6,8,10,13,15]) .e)) none .e)
def pl366:T (List Nat):=(.n (.n .e none (.n .e (some [0,2,4,6,8,10,12,14,17,19]) .e)) none .e)
def pl376:T (List Nat):=(.n (.n (.n .e none (.n (.n .e (some [0,2,4,6,8,10,12,14,24,17,19,20,22,27,29]) .e) none .e)) none (.n (.n (.n .e (some [0,3,5]) .e) none .e) none .e)) none (.n (.n .e (some [0,2,6,8,5,11,13,15]) .e) none (.n (.n .e none (.n .e (some [0,3,5]) .e)) (some [0,3,5,7,9,10,12,16,18,15,21,23,25,27]) .e)))
def pl381:T (List Nat):=(.n .e none (.n .e (some [0,2,4,6,8,10,20,22,13,15,16,18,25,27]) (.n .e (some [0,2,4,6,8,11,13,15]) .e)))
def pl384:T (List Nat):=(.n .e none (.n .e none (.n .e (some [0,2,4,8,12,7,11,15,17,19,21]) .e)))
def pl387:T (List Nat):=(.n .e none (.n (.n .e (some [0,2,4,6,8,18,11,13,14,16,21,23]) .e) none .e))
def pl388:T (List Nat):=(.n (.n .e none (.n .e none (.n .e (some [0,2,4,6,9,11,13,15]) .e))) none (.n (.n .e none (.n .e (some [0,2,4,6,9,11,13,15,17]) .e)) none .e))
def pl389:T (List Nat):=(.n (.n (.n .e none (.n .e (some [0,2,4,6,8,12,16,11,15,19,21,23,25,27]) .e)) none .e) none .e)
def pl390:T (List Nat):=(.n (.n (.n .e (some [0,2,4,6,8,20,11,13,15,16,18,23,25]) .e) none .e) none (.n (.n .e (some [0,2,4,12,7,9,11,15,17]) .e) none (.n .e none (.n .e (some [0,2,6,5,9,11]) .e))))
def pl391:T (List Nat):=(.n (.n .e (some [0,2,6,5,9,11]) .e) none (.n .e (some [0,2,4,6,8,20,11,13,15,16,18,23,25]) .e))
def pl393:T (List Nat):=(.n (.n (.n .e (some [0,2,4,6,8,20,11,13,15,16,18,23,25]) .e) (some [0,2,4,6,9,11,13,15]) .e) none (.n .e none (.n .e (some [0,2,4,6,9,11,13,15]) .e)))
def pl399:T (List Nat):=(.n .e none (.n .e (some [0,2,4,6,9,11,13,15]) (.n .e (some [0,2,4,6,9,11,13,15,17,19]) .e)))
def pl400:T (List Nat):=(.n (.n .e (some [0,2,4,6,9,11,13,15,17]) (.n .e (some [0,2,4,6,9,11,13,15]) .e)) none (.n .e (some [0,2,4,6,8,16,11,13,15,19]) .e))
def pl406:T (List Nat):=(.n .e none (.n .e (some [0,3,5,7,9,10,13,15,17,19,21,23]) .e))
def pl407:T (List Nat):=(.n .e none (.n .e none (.n .e (some [0,2,4,6,9,11,13,15]) .e)))
def pl414:T (List Nat):=(.n (.n .e (some [0,3,5,6,9,11,12,14,17,19]) .e) none (.n .e (some [0,2,4,16,7,9,11,12,14,19,21]) .e))
def pl415:T (List Nat):=(.n (.n (.n .e (some [0,2,4,6,8,10,20,13,15,16,18,23,25]) .e) none .e) none (.n (.n .e (some [0,2,4,6,8,10,20,13,15,16,18,23,25]) .e) none (.n (.n .e (some [0,3,5]) .e) none .e)))
def pl417:T (List Nat):=(.n .e none (.n (.n (.n .e (some [0,2,4,6,9,11,13]) .e) none .e) (some [0,2,4,6,9,11,13]) .e))
def pl418:T (List Nat):=(.n .e none (.n .e none (.n .e none (.n .e none (.n .e (some [0,6,8,10,12,14,3,5,17,19,21]) .e)))))
def pl419:T (List Nat):=(.n .e none (.n (.n .e (some [0,3,5,7,9,10,12,14,16,18,21,23,25,27]) .e) none .e))
def pl421:T (List Nat):=(.n (.n .e none (.n .e none (.n .e (some [0,2,4,8,10,14,16,7,13,19,21,23,25,27]) .e))) none .e)
def pl429:T (List Nat):=(.n (.n (.n (.n .e (some [0,2,4,6,8,10,12,14,16,19,21,23,25,27,29]) .e) none .e) none .e) none .e)
def pl446:T (List Nat):=(.n .e none (.n .e none (.n .e (some [0,2,4,6,8,10,13,15]) .e)))
def pl457:T (List Nat):=(.n .e none (.n .e (some [0,2,4,6,9,11,13,15]) .e))
def pl458:T (List Nat):=(.n .e none (.n .e (some [0,2,4,6,8,11,13,15]) .e))
def pl464:T (List Nat):=(.n (.n .e (some [0,2,4,6,9,11,13]) (.n .e none (.n .e (some [0,2,4,6,8,10,12,14,16,26,19,21,22,24,29,31]) .e))) none .e)
def pl465:T (List Nat):=(.n .e none (.n (.n .e none (.n .e (some [1,3,4,7,9,11,13,15,17,18,20,22,24,26,29,31,33,35,37,39]) .e)) none .e))
def pl473:T (List Nat):=(.n (.n (.n .e none (.n .e none (.n .e (some [1,3,5,7,9,11,12,14,16,18,20,22,25,27,29,31,33,35,37,39]) .e))) none .e) none (.n (.n .e none (.n .e (some [1,3,5,7,9,11,12,14,16,18,20,22,25,27,29,31,33,35,37,39]) .e)) none .e))
def pl474:T (List Nat):=(.n .e none (.n (.n .e none (.n .e (some [1,3,5,7,9,11,12,14,16,18,20,22,25,27,29,31,33,35,37,39]) .e)) none .e))
def pl481:T (List Nat):=(.n .e none (.n .e (some [1,3,5,7,8,10,13,15,17,19]) .e))
def pl485:T (List Nat):=(.n .e none (.n .e none (.n .e (some [0,2,4,6,10,12,14,16,18,22,9,21,25]) .e)))
def pl492:T (List Nat):=(.n .e none (.n .e none (.n .e none (.n .e (some [0,2,4,6,8,10,12,14,16,18,20,22,24,27,29,31,33,35,37]) .e))))
def pl493:T (List Nat):=(.n (.n .e (some [0,2,4,6,9,11]) .e) none (.n .e (some [0,2,4,6,9,11,13]) .e))
def pl494:T (List Nat):=(.n .e none (.n .e none (.n (.n .e (some [0,2,4,6,9,11,13]) .e) none .e)))
def pl502:T (List Nat):=(.n .e (some [0,2,4,6,12,18,20,22,24,26,9,11,15,17,29,31]) .e)
def pl504:T (List Nat):=(.n .e none (.n (.n .e none (.n .e none (.n .e (some [1,3,5,6,8,10,12,14,16,19,21,23,25,27,29]) .e))) none .e))
def pl511:T (List Nat):=(.n (.n (.n .e (some [0,2,4,6,8,10,12,14,16,18,20,23,25,27,29,31,33,35]) .e) none (.n .e (some [0,3,5,7,8,10,12,14,16,19,21,23,25,27,29]) .e)) none .e)
def pl512:T (List Nat):=(.n (.n (.n .e none (.n .e (some [0,2,4,6,8,10,12,14,16,18,20,22,24,27,29,31,33,35,37,39]) .e)) none .e) none .e)
def pl513:T (List Nat):=(.n (.n (.n .e none (.n .e (some [0,2,4,6,8,10,12,14,16,18,20,22,24,27,29,31,33,35,37,39]) .e)) none .e) none .e)
def pl515:T (List Nat):=(.n .e none (.n .e none (.n .e (some [0,2,4,6,8,10,12,14,16,19,21,23,25,27,29,31]) .e)))
def pl516:T (List Nat):=(.n (.n (.n (.n .e none (.n .e (some [0,2,4,6,8,11,13,15,17,19,21]) .e)) none .e) none (.n .e none (.n .e none (.n .e (some [0,2,4,6,8,11,13,15,17,19,21]) .e)))) none (.n (.n .e (some [0,3,5,7,8,10,12,14,16,19,21,23,25,27,29,31]) (.n .e none (.n .e (some [0,2,4,6,8,10,12,14,16,18,20,23,25,27,29,31,33,35]) .e))) none (.n (.n .e (some [0,2,4,6,8,10,12,14,16,18,20,23,25,27,29,31,33,35]) .e) none (.n (.n .e (some [0,2,4,6,8,10,12,14,16,18,20,23,25,27,29,31,33,35]) .e) none .e))))
def pl518:T (List Nat):=(.n (.n .e none (.n .e none (.n .e (some [0,2,4,6,8,10,12,14,16,19,21,23,25,27,29,31]) .e))) none (.n (.n .e (some [0,3,5,7,8,10,12,14,16,19,21,23,25,27]) .e) (some [0,2,4,6,8,10,12,14,16,19,21,23,25,27,29,31]) (.n .e (some [0,3,5,7,8,10,12,14,16,19,21,23,25,27,29]) .e)))
def pl519:T (List Nat):=(.n (.n (.n .e none (.n .e (some [0,2,4,6,8,10,12,14,16,19,21,23,25,27,29,31]) (.n .e (some [0,2,4,6,8,10,12,14,16,19,21,23,25,27,29,31]) .e))) none (.n .e none (.n .e (some [0,2,4,6,8,10,12,14,16,19,21,23,25,27,29,31]) .e))) none (.n (.n (.n .e (some [0,3,5,7,8,10,12,14,16,19,21,23,25,27]) (.n .e (some [0,2,4,6,8,10,12,14,16,19,21,23,25,27,29,31]) .e)) (some [0,3,5,7,8,10,12,14,16,19,21,23,25,27,29]) .e) (some [0,2,4,6,8,10,12,14,16,19,21,23,25,27,29,31]) (.n .e (some [0,3,5,7,8,10,12,14,16,19,21,23,25,27]) (.n .e none (.n .e (some [0,3,5,7,8,10,12,14,16,19,21,23,25,27,29]) .e)))))
def pl523:T (List Nat):=(.n (.n (.n .e (some [0,2,4,6,8,10,12,14,16,18,20,22,24,26,28,30,33,35,37,39,41,43,45,47]) .e) none .e) none (.n (.n .e (some [0,2,4,6,8,10,12,14,17,19,21,23,25,27]) .e) none (.n .e (some [0,2,5,7,9,10,12,14,16,18,20,22,24,27,29,31,33,35,37,39]) .e)))
def pl525:T (List Nat):=(.n (.n .e (some [0,2,4,7,9,11,13,15,17,19]) .e) none (.n .e (some [0,2,4,7,9,11,13,15,17,19]) (.n .e (some [0,2,4,7,9,11,13,15,17,19]) .e)))
def pl528:T (List Nat):=(.n .e none (.n .e (some [0,2,4,6,8,11,13,15,17]) .e))
def planT:T (T (List Nat)):=(.n (.n (.n (.n (.n (.n (.n .e (some pl126) (.n (.n .e (some pl446) .e) none .e)) none (.n (.n .e (some pl222) (.n .e (some pl350) .e)) none (.n (.n .e (some pl414) .e) none .e))) (some pl30) (.n (.n (.n (.n .e (some pl494) .e) (some pl238) (.n .e (some pl366) .e)) none .e) none (.n (.n .e none (.n .e (some pl334) .e)) none (.n .e none (.n .e (some pl270) .e))))) none (.n (.n (.n (.n (.n .e (some pl502) .e) none .e) none (.n .e (some pl182) .e)) (some pl54) (.n (.n .e (some pl214) .e) none (.n (.n .e (some pl406) .e) none .e))) (some pl22) (.n .e (some pl38) (.n (.n .e (some pl198) .e) none (.n (.n .e (some pl390) .e) none (.n .e (some pl262) (.n .e (some pl518) .e))))))) none (.n (.n (.n (.n .e (some pl122) .e) (some pl58) (.n (.n (.n .e (some pl474) .e) (some pl218) (.n .e (some pl346) .e)) none (.n .e (some pl154) .e))) none (.n (.n (.n .e (some pl234) .e) (some pl106) (.n .e (some pl170) (.n .e (some pl298) .e))) none (.n (.n (.n .e (some pl458) .e) (some pl202) .e) none (.n .e none (.n .e (some pl266) .e))))) none (.n (.n (.n .e none (.n .e none (.n .e (some pl306) .e))) (some pl50) (.n (.n .e (some pl210) (.n .e (some pl338) .e)) none (.n .e (some pl146) .e))) (some pl18) (.n (.n .e (some pl98) (.n (.n .e (some pl418) .e) none (.n .e (some pl290) .e))) (some pl34) (.n (.n .e (some pl194) (.n .e (some pl322) .e)) (some pl66) (.n .e (some pl130) .e)))))) none (.n (.n (.n (.n (.n .e none (.n .e none (.n .e (some pl316) .e))) none (.n .e none (.n .e none (.n .e (some pl284) .e)))) (some pl28) (.n (.n (.n (.n .e (some pl492) .e) none .e) none (.n .e (some pl172) .e)) (some pl44) (.n (.n .e (some pl204) (.n .e (some pl332) .e)) (some pl76) (.n .e none (.n .e (some pl268) .e))))) none (.n (.n (.n .e (some pl116) .e) none (.n (.n .e none (.n .e (some pl340) .e)) none .e)) (some pl20) (.n (.n (.n .e none (.n .e (some pl356) .e)) none .e) (some pl36) (.n .e (some pl68) (.n (.n .e (some pl388) .e) (some pl132) (.n .e none (.n .e (some pl516) .e))))))) (some pl4) (.n (.n (.n (.n (.n (.n .e (some pl504) .e) (some pl248) (.n .e (some pl376) .e)) none .e) none (.n (.n .e (some pl216) .e) none (.n .e (some pl152) .e))) (some pl24) (.n .e (some pl40) (.n (.n .e (some pl200) (.n .e (some pl328) .e)) (some pl72) (.n .e (some pl136) (.n .e (some pl264) .e))))) none (.n (.n (.n (.n .e (some pl240) .e) none .e) none (.n (.n (.n .e (some pl464) .e) (some pl208) .e) (some pl80) (.n (.n .e (some pl400) .e) none (.n .e none (.n .e (some pl528) .e))))) none (.n (.n (.n .e none (.n .e (some pl352) .e)) none .e) (some pl32) (.n .e none (.n (.n .e (some pl384) .e) (some pl128) (.n .e (some pl256) (.n .e (some pl512) .e))))))))) none (.n (.n (.n (.n (.n (.n (.n .e none (.n .e (some pl381) .e)) none (.n .e (some pl189) .e)) none (.n (.n .e (some pl221) (.n .e (some pl349) .e)) none (.n .e (some pl157) .e))) (some pl29) (.n (.n (.n (.n .e (some pl493) .e) none .e) none (.n (.n .e (some pl429) .e) none .e)) none (.n (.n .e (some pl205) (.n .e (some pl333) .e)) (some pl77) (.n .e (some pl141) (.n .e (some pl269) (.n .e (some pl525) .e)))))) (some pl13) (.n (.n (.n .e (some pl117) (.n .e (some pl181) (.n .e (some pl309) .e))) (some pl53) (.n .e none (.n .e (some pl149) .e))) (some pl21) (.n (.n (.n (.n .e (some pl485) .e) none .e) none (.n (.n .e (some pl421) .e) none (.n .e (some pl293) .e))) (some pl37) (.n (.n .e (some pl197) (.n .e (some pl325) .e)) (some pl69) (.n (.n .e (some pl389) .e) none .e))))) none (.n (.n (.n (.n .e none (.n .e none (.n .e (some pl313) .e))) (some pl57) (.n (.n (.n .e (some pl473) .e) none (.n .e (some pl345) .e)) (some pl89) (.n .e (some pl153) .e))) (some pl25) (.n .e (some pl41) (.n (.n (.n .e (some pl457) .e) (some pl201) (.n .e (some pl329) .e)) (some pl73) (.n (.n .e (some pl393) .e) (some pl137) (.n .e (some pl265) .e))))) (some pl9) (.n (.n (.n (.n .e (some pl241) .e) none (.n .e none (.n .e (some pl305) .e))) (some pl49) (.n (.n (.n .e (some pl465) .e) (some pl209) (.n .e (some pl337) .e)) (some pl81) (.n .e (some pl145) .e))) (some pl17) (.n (.n (.n (.n .e (some pl481) .e) none .e) none (.n (.n .e (some pl417) .e) none .e)) (some pl33) (.n (.n .e (some pl193) (.n .e (some pl321) .e)) none (.n .e (some pl129) (.n .e none (.n .e (some pl513) .e)))))))) none (.n (.n (.n (.n (.n (.n .e (some pl251) .e) (some pl123) .e) none (.n (.n .e none (.n .e (some pl347) .e)) none (.n .e (some pl155) .e))) none (.n (.n (.n .e none (.n .e (some pl363) .e)) (some pl107) (.n .e (some pl171) (.n .e (some pl299) .e))) none (.n (.n .e none (.n .e (some pl331) .e)) none (.n .e none (.n .e (some pl267) (.n .e (some pl523) .e)))))) none (.n (.n .e (some pl51) (.n (.n .e (some pl211) .e) none .e)) (some pl19) (.n (.n .e (some pl99) (.n (.n .e (some pl419) .e) none .e)) (some pl35) (.n (.n .e none (.n .e (some pl323) .e)) (some pl67) (.n (.n .e (some pl387) .e) none (.n .e (some pl259) (.n .e (some pl515) .e))))))) (some pl3) (.n (.n (.n (.n .e (some pl119) (.n .e none (.n .e (some pl311) .e))) (some pl55) (.n (.n .e (some pl215) .e) none (.n (.n .e (some pl407) .e) none .e))) (some pl23) (.n (.n (.n .e none (.n .e (some pl359) .e)) (some pl103) (.n .e (some pl167) (.n .e (some pl295) .e))) (some pl39) (.n (.n .e none (.n .e (some pl327) .e)) (some pl71) (.n (.n .e (some pl391) .e) none (.n .e (some pl263) (.n .e (some pl519) .e)))))) none (.n (.n (.n .e none (.n .e none (.n .e (some pl303) .e))) (some pl47) (.n .e (some pl79) (.n (.n .e (some pl399) .e) (some pl143) .e))) (some pl15) (.n (.n (.n .e (some pl223) .e) (some pl95) (.n (.n .e (some pl415) .e) (some pl159) .e)) (some pl31) (.n (.n .e (some pl191) .e) none (.n .e none (.n .e none (.n .e (some pl511) .e))))))))))
def plan (f id:Nat):Option Plan :=
 match planT.get f with
 | some t=>match t.get id with
  | some l=>some (planOf l)
  | none=>none
 | none=>none
def chkF (f:Nat) (g:Func):Bool:=!(g.name == "runtime.NumGoroutine") && match g.body with | some c=>planOkC (plan f) c | none=>true
def chkL:List Func→Nat→Bool
 | [],_=>true
 | g :: t,k=>chkF k g && chkL t (k + 1)
theorem chkL_ok:∀ {l:List Func} {k:Nat},chkL l k=true→∀ j g,l[j]?=some g→chkF (k + j) g=true
 | [],_,_,j,g,h=>by simp at h
 | a :: t,k,h,j,g,hj=>by
  simp only [chkL,Bool.and_eq_true] at h
  cases j with
  | zero=>simp at hj;subst hj;exact h.1
  | succ j=>have:=chkL_ok h.2 j g (by simpa using hj);rwa [show k + 1 + j=k + (j + 1) by omega] at this
set_option maxHeartbeats 4000000 in
theorem chk_all:chkL Tryz.prog.funcs.toList 0=true:=by kernel_rfl
theorem fn_all (f:Nat) (g:Func) (h:Tryz.prog.funcs[f]?=some g):Tryz.prog.funcs[f]?=some g∧(g.name == "runtime.NumGoroutine")=false∧∀ c,g.body=some c→planOkC (plan f) c=true:=by
 have:=chkL_ok chk_all f g (by simpa using h)
 rw [Nat.zero_add] at this
 simp only [chkF,Bool.and_eq_true,Bool.not_eq_true'] at this
 refine ⟨h,this.1,fun c hc=>?_⟩
 have h2:=this.2
 rw [hc] at h2
 exact h2
end
section
set_option maxRecDepth 100000
open Go.RowKit
def extT:T ExtF:=(.n (.n (.n (.n (.n (.n .e none (.n .e (some xSweep) .e)) none (.n .e none (.n .e none (.n .e (some xItems) .e)))) none .e) none (.n (.n (.n .e none (.n (.n .e (some xString) .e) none .e)) none .e) none (.n .e (some xMake) .e))) none (.n (.n (.n (.n .e none (.n .e (some xKind) .e)) none .e) none (.n .e none (.n .e none (.n (.n (.n .e (some xJoin) .e) none .e) none .e)))) none (.n (.n (.n .e none (.n .e (some xName) .e)) none .e) none (.n .e (some xNew) (.n (.n .e (some xLive) .e) none .e))))) none (.n (.n .e none (.n (.n (.n .e none (.n .e (some xGet) .e)) none .e) none (.n .e (some xBoot) .e))) none (.n (.n (.n (.n .e none (.n .e (some xAt) (.n .e (some xSetAt) .e))) none (.n (.n .e none (.n .e none (.n .e (some xSub) .e))) none .e)) none (.n (.n .e none (.n (.n (.n .e (some xCheck) .e) none .e) none .e)) none (.n (.n .e (some xPut) .e) none .e))) none (.n (.n (.n .e none (.n .e none (.n .e none (.n .e (some xLen) .e)))) none .e) none .e))))
def T.Of {α:Type} (p:Nat→α→Prop):T α→(Nat→Nat)→Prop
 | .e,_=>True
 | .n l v r,φ=>T.Of p l (fun k=>φ (2 * k + 2))∧(∀ x,v=some x→p (φ 0) x)∧T.Of p r (fun k=>φ (2 * k + 1))
theorem T.Of_get {α:Type} {p:Nat→α→Prop}:∀ (t:T α) (φ:Nat→Nat),T.Of p t φ→∀ k x,t.get k=some x→p (φ k) x
 | .e,_,_,_,_,h=>by cases h
 | .n l v r,φ,h,k,x,hx=>by
  obtain ⟨h1,h2,h3⟩:=h
  cases k with
  | zero=>exact h2 x hx
  | succ k =>
   by_cases hk:k % 2=0
   ·have:=T.Of_get r _ h3 (k / 2) x (T.get_n_r hk hx)
    rwa [show 2 * (k / 2) + 1=k + 1 by omega] at this
   ·have:=T.Of_get l _ h1 (k / 2) x (T.get_n_l hk hx)
    rwa [show 2 * (k / 2) + 2=k + 1 by omega] at this
theorem callable_of {P:Program} {f:Nat} (h:(match P.funcs[f]? with | some g=>!g.body.isNone && !(g.name == "runtime.NumGoroutine") | none=>false)=true):Callable P f:=by
 split at h
 ·rename_i g hg
  simp only [Bool.and_eq_true,Bool.not_eq_true'] at h
  exact ⟨g,hg,h.1,h.2⟩
 ·cases h
def extP (f:Nat) (h:ExtF):Prop:=Callable Tryz.prog f∧ExtOk f h
theorem ext_all:T.Of extP extT (fun k=>k):=⟨⟨⟨⟨⟨⟨trivial,nofun,⟨trivial,fun _ h=>by cases h;exact ⟨callable_of (by kernel_rfl),xSweep_ok⟩,trivial⟩⟩,nofun,⟨trivial,nofun,⟨trivial,nofun,⟨trivial,fun _ h=>by cases h;exact ⟨callable_of (by kernel_rfl),xItems_ok⟩,trivial⟩⟩⟩⟩,nofun,trivial⟩,nofun,⟨⟨⟨trivial,nofun,⟨⟨trivial,fun _ h=>by cases h;exact ⟨callable_of (by kernel_rfl),xString_ok⟩,trivial⟩,nofun,trivial⟩⟩,nofun,trivial⟩,nofun,⟨trivial,fun _ h=>by cases h;exact ⟨callable_of (by kernel_rfl),xMake_ok⟩,trivial⟩⟩⟩,nofun,⟨⟨⟨⟨trivial,nofun,⟨trivial,fun _ h=>by cases h;exact ⟨callable_of (by kernel_rfl),xKind_ok⟩,trivial⟩⟩,nofun,trivial⟩,nofun,⟨trivial,nofun,⟨trivial,nofun,⟨⟨⟨trivial,fun _ h=>by cases h;exact ⟨callable_of (by kernel_rfl),xJoin_ok⟩,trivial⟩,nofun,trivial⟩,nofun,trivial⟩⟩⟩⟩,nofun,⟨⟨⟨trivial,nofun,⟨trivial,fun _ h=>by cases h;exact ⟨callable_of (by kernel_rfl),xName_ok⟩,trivial⟩⟩,nofun,trivial⟩,nofun,⟨trivial,fun _ h=>by cases h;exact ⟨callable_of (by kernel_rfl),xNew_ok⟩,⟨⟨trivial,fun _ h=>by cases h;exact ⟨callable_of (by kernel_rfl),xLive_ok⟩,trivial⟩,nofun,trivial⟩⟩⟩⟩⟩,nofun,⟨⟨trivial,nofun,⟨⟨⟨trivial,nofun,⟨trivial,fun _ h=>by cases h;exact ⟨callable_of (by kernel_rfl),xGet_ok⟩,trivial⟩⟩,nofun,trivial⟩,nofun,⟨trivial,fun _ h=>by cases h;exact ⟨callable_of (by kernel_rfl),xBoot_ok⟩,trivial⟩⟩⟩,nofun,⟨⟨⟨⟨trivial,nofun,⟨trivial,fun _ h=>by cases h;exact ⟨callable_of (by kernel_rfl),xAt_ok⟩,⟨trivial,fun _ h=>by cases h;exact ⟨callable_of (by kernel_rfl),xSetAt_ok⟩,trivial⟩⟩⟩,nofun,⟨⟨trivial,nofun,⟨trivial,nofun,⟨trivial,fun _ h=>by cases h;exact ⟨callable_of (by kernel_rfl),xSub_ok⟩,trivial⟩⟩⟩,nofun,trivial⟩⟩,nofun,⟨⟨trivial,nofun,⟨⟨⟨trivial,fun _ h=>by cases h;exact ⟨callable_of (by kernel_rfl),xCheck_ok⟩,trivial⟩,nofun,trivial⟩,nofun,trivial⟩⟩,nofun,⟨⟨trivial,fun _ h=>by cases h;exact ⟨callable_of (by kernel_rfl),xPut_ok⟩,trivial⟩,nofun,trivial⟩⟩⟩,nofun,⟨⟨⟨trivial,nofun,⟨trivial,nofun,⟨trivial,nofun,⟨trivial,fun _ h=>by cases h;exact ⟨callable_of (by kernel_rfl),xLen_ok⟩,trivial⟩⟩⟩⟩,nofun,trivial⟩,nofun,trivial⟩⟩⟩⟩
theorem extT_ok:∀ f h,extT.get f=some h→extP f h:=fun f h hf=>T.Of_get extT _ ext_all f h hf
abbrev ExtT:=Nat→Option ExtF
def C (P:Program) (ext:ExtT) (w0:B0):Cfg HX:=⟨P,HL w0,fun f=>P.funcs[f]?,ext,hbit,hvalW P w0.fo,HX.good⟩
theorem C_ok {ext:ExtT} (hx:∀ f h,ext f=some h→extP f h) (w0:B0):(C Tryz.prog ext w0).Ok plan :=
 ⟨by kernel_rfl,fun f g h=>fn_all f g h,fun f h hf=>by
  obtain ⟨h1,h2⟩:=hx f h hf
  exact ⟨h1,h2 w0⟩,hval_ok (w0:=w0),fun b x b' x' h hg=>by
  obtain ⟨h1,h2,h3⟩:=hbit_ok (w0:=w0) b x b' x' h hg
  exact ⟨h1,h2,h3⟩⟩
def run (P:Program) (ext:ExtT) (K n f:Nat) (vs:List SV) (st:St HX):Option (SV × St HX):=callF (C P ext default) plan K n f vs st
theorem run_ok {ext:ExtT} (hx:∀ f h,ext f=some h→extP f h) {K n f:Nat} {vs:List SV} {st st':St HX} {v:SV} (h:run Tryz.prog ext K n f vs st=some (v,st')) (w:World):CallsR Tryz.prog (HL (B0.of w)) HX.good f vs st v st' :=
 (callF_ok (C_ok hx (B0.of w)) K n f vs st v st' h).2
def st0 (sc:List (Nat × Sc)):St HX:=⟨.e,0,⟨none,0,sc,[],[]⟩⟩
theorem st0_no {sc:List (Nat × Sc)} {b:Nat} {k:SB} (h:(st0 sc).m.get b=some k):False:=by
 rw [show (st0 sc).m.get b=none from T.get_e b] at h;cases h
theorem Fix.of {w:World} {d:Nat}:Fix (B0.of w) d↔d=0∨d=2:=⟨fun h=>h.imp id fun h=>h.elim id fun ⟨b,o,z,h⟩=>(by cases h),fun h=>h.imp id .inl⟩
theorem st0_ok (sc:List (Nat × Sc)) (w:World) (hg:Gl w):Rl (HL (B0.of w)) (fun _=>none) (st0 sc) w (Fix (B0.of w)) :=
 ⟨fun _ _ _ _ _ h _=>(st0_no h).elim,fun _ _ _ _ _ _ _ _ _ _ h _ _ _ _ _=>(st0_no h).elim,fun _ _ h=>(st0_no h).elim,fun _ _ h=>(by cases h),fun _ _ h _=>(st0_no h).elim,⟨⟨hg,fun _ _=>rfl,Nat.le_refl _,nofun⟩,fun _=>Iff.rfl⟩⟩
def outL (r:Option (SV × St HX)) (v:SV):Option (Bool × List Prop × List SV):=match r with
 | some p=>some (SV.beq p.1 v,p.2.x.pc,p.2.x.rc.map Prod.fst)
 | none=>none
def outR (r:Option (SV × St HX)) (ps:List Prop):Option (Bool × List Prop × List SV):=match r with
 | some p=>some (true,ps,p.2.x.rc.map Prod.snd)
 | none=>some (false,[],[])
theorem map_same {α:Type}:∀ {l:List (α × α)},l.map Prod.fst=l.map Prod.snd→∀ q∈l,q.1=q.2
 | [],_,_,h=>by cases h
 | p :: t,h,q,hq=>by
  simp only [List.map_cons,List.cons.injEq] at h
  rcases List.mem_cons.1 hq with rfl | hq
  ·exact h.1
  ·exact map_same h.2 q hq
def AllP:List Prop→Prop
 | []=>True
 | p :: t=>p∧AllP t
theorem AllP.mem:∀ {l:List Prop},AllP l→∀ p∈l,p
 | [],_,_,h=>by cases h
 | q :: t,hl,p,h=>by
  rcases List.mem_cons.1 h with rfl | h
  ·exact hl.1
  ·exact AllP.mem hl.2 p h
theorem outP_ok {r:Option (SV × St HX)} {v:SV} {ps:List Prop} (h:outL r v=outR r ps) (hp:AllP ps):∃ st',r=some (v,st')∧st'.x.good:=by
 unfold outL outR at h
 split at h
 ·rename_i p
  injection h with h
  injection h with h1 h2
  injection h2 with h2 h3
  refine ⟨p.2,by rw [← SV.beq_ok h1],?_,map_same h3⟩
  subst h2
  exact AllP.mem hp
 ·cases h
theorem run_call {ext:ExtT} (hx:∀ f h,ext f=some h→extP f h) {K n f:Nat} {vs:List SV} {sc:List (Nat × Sc)} {v:SV} {ps:List Prop} (h:outL (run Tryz.prog ext K n f vs (st0 sc)) v=outR (run Tryz.prog ext K n f vs (st0 sc)) ps) (hp:AllP ps) {us:List Value} (hvs:VRs (fun _=>none) vs us) {u:Value} (hu:∀ e x,VR e v x→x=u) (w:World) (hg:Gl w):Calls Tryz.prog f ⟨us⟩ w fun en w'=>en=.returned u∧Bl w w':=by
 obtain ⟨st',h1,h2⟩:=outP_ok h hp
 have:=(run_ok hx h1 w h2).2 (fun _=>none) w _ us (st0_ok sc w hg) hvs
 refine this.mono fun en w' ⟨x,e',F',q1,q2,q3,q4⟩=>?_
 refine ⟨by rw [q1,hu e' x q2],q4.os,q4.tape,q4.output,q4.size,fun b hb=>?_⟩
 have he:=q3.ext.1
 by_cases h0:b=0
 ·rw [h0];exact he.2.1 0 (.inl rfl)
 ·by_cases h2:b=2
  ·rw [h2];exact he.2.1 2 (.inr (.inl rfl))
  ·refine q4.frame b hb fun hi=>?_
   rcases hi with hi | ⟨y,k,o,z,hy,-⟩
   ·exact (Fix.of.1 hi).elim h0 h2
   ·exact (st0_no hy).elim
theorem shown_run:outL (run Tryz.prog extT.get 100000 100 4 [] (st0 [])) (.bool true)=outR (run Tryz.prog extT.get 100000 100 4 [] (st0 [])) []:=by kernel_rfl
theorem shown_any (w:World) (hg:Gl w):Calls Tryz.prog 4 #[] w fun en w'=>en=.returned (.bool true)∧Bl w w' :=
 run_call extT_ok shown_run trivial .nil (fun e x hx=>by cases hx;rfl) w hg
def xShown:ExtF:=fun vs st=>match vs with
 | []=>some (.bool true,st)
 | _=>none
theorem xShown_ok:ExtOk 4 xShown:=fun w0 vs st v st' h=>by
 unfold xShown at h
 split at h
 ·cases h
  exact ext_reader fun e w F us hR hvs=>by
   cases vrs_nil hvs
   exact ⟨_,.bool true,shown_any w hR.gl⟩
 ·cases h
def extL:ExtT:=fun f=>bif Nat.beq f 4 then some xShown else extT.get f
theorem extL_ok:∀ f h,extL f=some h→extP f h:=fun f h hf=>by
 unfold extL at hf
 cases hb:Nat.beq f 4 with
 | true =>
  rw [hb,cond_true] at hf;cases hf
  rw [Nat.eq_of_beq_eq_true hb]
  exact ⟨callable_of (by kernel_rfl),xShown_ok⟩
 | false=>rw [hb,cond_false] at hf;exact extT_ok f h hf
end
section
set_option maxRecDepth 100000
open Go.RowKit
def LawT (f:Nat) (us:List Value):Prop:=∀ w,Gl w→Calls Tryz.prog f ⟨us⟩ w fun en w'=>en=.returned (.bool true)∧Bl w w'
end
end Go.Proofs.YtbbokgpklihkoaaGreatDoor.W.E
namespace Go.Proofs.YtbbokgpklihkoaaGreatDoor.R
section
set_option maxRecDepth 100000
open Go.ChangeShapes Go.WideShapes Go.ChangeAt Go.RowKit
section
variable {H:Type} {enc:TypeId × Value→H}
theorem handed_laid_shaped {a:Assume} {C:Checked} {os:Os} {f:FuncId} {fn:Func} {s:ChangeSpec} {conds:List PathCond} {apart fresh handsOn again:Bool} {X:World→Array Value→Prop}
  (hX:∀ (w w':World) (args:Array Value),w.heap=w'.heap→X w args→X w' args)
  (own:ownKnob C.prog.godebug=none) (started:os.Started) (noInit:C.prog.inits.idxOf? f=none) (hfn:C.prog.funcs[f]?=some fn)
  (witness:∃ (w:World) (tape:Tape) (i:Input),w.os=os∧(w.forCall tape i).Shaped C.prog∧i.vars=[]∧Input.okWide C.prog (w.forCall tape i) .any w.heap.size f i ∧
   ((s.pre enc C.prog fn conds apart (w.forCall tape i).memory i.args∧X (w.forCall tape i).memory i.args)∧sizedMet enc C.prog fn (OpenSpec.ofChange s) apart (w.forCall tape i).memory i.args)∧a.holds C.prog (lone (Frame.enter C.prog f i.args .normal) [] (w.forCall tape i)))
  (contract:∀ (W:World) (base:Nat) (args:Array Value) (ds gs:List (DataW H)) (before:List MemPlace),
   (∀ (j:Nat) t v,fn.params[j]?=some t→args[j]?=some v→Value.okWide C.prog W .any base t v) →
   DataW.Whole enc C.prog fn.params.toList s.vars apart W args.toList ds gs before →
   X W args→W.ShapedOpen C.prog →
   Calls C.prog f args W fun e W'=>∃ v,e=.returned v∧s.post enc C.prog fn apart fresh handsOn again W args v W') :
  ReturnsInHanded a C os f .any (fun w args=>(s.pre enc C.prog fn conds apart w args∧X w args)∧sizedMet enc C.prog fn (OpenSpec.ofChange s) apart w args) (s.post enc C.prog fn apart fresh handsOn again):=by
 refine returnsInHanded_of_calls own started noInit witness ?_
 intro w tape i _ hsh _ hok hpre hholds
 obtain ⟨_,_,_,fn',hfn',_,_,_,_,hval⟩:=hok
 have e:fn'=fn:=Option.some.inj (hfn'.symm.trans hfn)
 subst e
 obtain ⟨⟨⟨ds,gs,before,hw,hc⟩,hx⟩,hz⟩:=hpre
 have hw':=DataW.Whole.of_heap (w':=w.forCall tape i) (by rfl) hw
 refine (contract (w.forCall tape i) w.heap.size i.args ds gs before hval hw' (hX _ _ _ (by rfl) hx) hsh).mono fun e W' ⟨v,he,hp⟩=>?_
 subst he
 exact ChangeSpec.post_blind hp
theorem witness_ref {C:Checked} {os:Os} {f:FuncId} {fn:Func} {s:ChangeSpec} {conds:List PathCond} {apart:Bool} {X:World→Array Value→Prop} (modest:Bool) (w0:World) (args:Array Value) (fuel:Nat) (hos:w0.os=os)
  (hv:(w0.forCall (fun _ _=>0) ⟨#[],args,[]⟩).variablesRefB C.prog=true)
  (hr:((w0.forCall (fun _ _=>0) ⟨#[],args,[]⟩).heap.toList.drop C.prog.globals.size).take ((begin C.prog (fun _ _=>0) default).world.heap.size - C.prog.globals.size) =
   (begin C.prog (fun _ _=>0) default).world.heap.toList.drop C.prog.globals.size)
  (hok:Input.okWideB C.prog (w0.forCall (fun _ _=>0) ⟨#[],args,[]⟩) f ⟨#[],args,[]⟩=true)
  (hpre:s.preB enc C.prog fn conds apart (w0.forCall (fun _ _=>0) ⟨#[],args,[]⟩).memory args fuel=true)
  (hsz:s.sizedB enc C.prog fn apart (w0.forCall (fun _ _=>0) ⟨#[],args,[]⟩).memory args fuel=true)
  (hx:X (w0.forCall (fun _ _=>0) ⟨#[],args,[]⟩).memory args) :
  ∃ (w:World) (tape:Tape) (i:Input),w.os=os∧(w.forCall tape i).Shaped C.prog∧i.vars=[]∧Input.okWide C.prog (w.forCall tape i) .any w.heap.size f i ∧
   ((s.pre enc C.prog fn conds apart (w.forCall tape i).memory i.args∧X (w.forCall tape i).memory i.args)∧sizedMet enc C.prog fn (OpenSpec.ofChange s) apart (w.forCall tape i).memory i.args)∧({ modest:=modest }:Assume).holds C.prog (lone (Frame.enter C.prog f i.args .normal) [] (w.forCall tape i)) :=
 ⟨w0,fun _ _=>0,⟨#[],args,[]⟩,hos,World.shaped_of_RefB hv hr,(Input.okWide_of_okWideB (base:=0) hok).1,(Input.okWide_of_okWideB hok).2,⟨⟨ChangeSpec.pre_of_preB hpre,hx⟩,sizedMet_of_sizedB hsz⟩,by
  simp only [Assume.holds]
  exact ⟨by simp,by simp,fun _=>Modest.zero,by simp,by simp⟩⟩
end
theorem own:ownKnob Tryz.prog.godebug=none:=by kernel_rfl
theorem gT:Tryz.prog.globalNamed "strings.asciiSpace"=some 0:=by kernel_rfl
def laid:List (String × DataW Unit):=[("unicode.White_Space",Rows.laid_unicode_White_Space),("strings.asciiSpace",Rows.laid_strings_asciiSpace)]
theorem gTType:(Tryz.prog.globals[0]?).map (·.type)=some 303:=by kernel_rfl
theorem gl_of {W:World} (hL:laidMetH Tryz.prog laid W) (hsh:W.ShapedOpen Tryz.prog):Go.Proofs.YtbbokgpklihkoaaGreatDoor.W.Gl W:=by
 have h0:(laid.filter fun x=>x.2.handleName?.isSome)=[]:=by kernel_rfl
 unfold laidMetH at hL
 rw [h0] at hL
 have h1:laidMet Tryz.prog laid W:=hL
 have he:Rows.laid_strings_asciiSpace=(Go.Lib.tabData .u8 Go.Lib.asciiSpaceTab:DataW Unit):=by kernel_rfl
 unfold laid at h1
 rw [he] at h1
 have h2:=laidMet.tail h1
 have htab:=Go.Lib.tabIs_of_head gT gTType (e:=5) (n:=256) (by kernel_rfl) (by kernel_rfl) (by kernel_rfl) (by kernel_rfl) h2
 have hm:∃ m,W.cell? ⟨2,0,none⟩=some (.int .i64 m):=Tryz.laysM143.s1_3 W hsh
 refine ⟨htab,hm,?_⟩
 obtain ⟨m,hm⟩:=hm
 rcases Nat.lt_or_ge 2 W.heap.size with h | h
 ·exact h
 ·simp [World.cell?,Array.getElem?_eq_none h] at hm
noncomputable def laidWorld (os:Os):World :=
 let N:=(World.settled Tryz.prog os).heap.size
 let w0:=World.holding Tryz.prog os ⟨#[.cells (Go.Lib.whiteT.map fun (z:Nat)=>Value.int .u16 (z:Int)).toArray 391,.cells #[.slice (some ⟨N,0,none⟩) 7 7,.slice none 0 0,.int .i64 2] 388],#[],[]⟩
 let put (h:Array Obj) (g:Nat) (cs:Array Value):Array Obj:=h.modify g fun
  | .cells _ t frozen=>.cells cs t frozen
  | o=>o
 let h1:=put w0.heap 0 (Go.Lib.asciiSpaceTab.map fun z=>Value.int .u8 z).toArray
 let h4:=put h1 1 #[.pointer (some ⟨N + 1,0,none⟩)]
 { w0 with heap:=h4 }
theorem laidWorld_met (os:Os) (args:Array Value):laidMetH Tryz.prog laid ((laidWorld os).forCall (fun _ _=>0) ⟨#[],args,[]⟩).memory:=by
 have h0:(laid.filter fun x=>x.2.handleName?.isSome)=[]:=by kernel_rfl
 unfold laidMetH
 rw [h0]
 exact laidMet_of_run' 10 (by kernel_rfl) (by kernel_rfl)
end
end Go.Proofs.YtbbokgpklihkoaaGreatDoor.R
