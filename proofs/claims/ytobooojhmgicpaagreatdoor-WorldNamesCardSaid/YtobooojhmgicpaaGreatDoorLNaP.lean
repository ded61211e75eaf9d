/- LNaP -/
import Derived.Test.YtobooojhmgicpaaGreatDoorLNaB
set_option linter.unusedVariables false
set_option linter.unusedSimpArgs false
namespace Go.Proofs.YtobooojhmgicpaaGreatDoor.W.E
section
set_option maxRecDepth 100000
open Go.RowKit
theorem naP (cs:List SV) (n:Nat):PT (foC cs) fNa nNa vNa pNa 6 (kNa.take 9) (SS.tell (initT [.sl 0 0 n 3 none] 0 .e,st0N 1 []) []) (sNa n 0 (fun _=>false) (fun _=>0) (lZ [] []) 20) .normal []:=by delta PT;kernel_rfl
theorem naNil:PE fo0 fNa nNa rsNa kNa (SS.tell (initT [.nils] 0 .e,st0 []) []) []:=by delta PE;kernel_rfl
theorem naTT (cs:List SV) (n i:Nat) (b:Nat→Bool) (j:Nat→Int) (l:Obs) (m:Int):QT (foC cs) fNa nNa vNa pNa 6 (k1Na.take 2) (sNa n i b j l m) (sNa n i b j l m) .normal [qI 3 (some (.bool (ltI (Int.ofNat i) (Int.ofNat n)))) (.bool true),qI 6 (some (.bool (ltI (Int.ofNat i) 60))) (.bool true)]:=by delta QT;kernel_rfl
theorem naTF (cs:List SV) (n i:Nat) (b:Nat→Bool) (j:Nat→Int) (l:Obs) (m:Int):QT (foC cs) fNa nNa vNa pNa 6 (k1Na.take 2) (sNa n i b j l m) (sNa n i b j l m) (.exit 0) [qI 3 (some (.bool (ltI (Int.ofNat i) (Int.ofNat n)))) (.bool false)]:=by delta QT;kernel_rfl
theorem naTG (cs:List SV) (n i:Nat) (b:Nat→Bool) (j:Nat→Int) (l:Obs) (m:Int):QT (foC cs) fNa nNa vNa pNa 6 (k1Na.take 2) (sNa n i b j l m) (sNa n i b j l m) (.exit 0) [qI 3 (some (.bool (ltI (Int.ofNat i) (Int.ofNat n)))) (.bool true),qI 6 (some (.bool (ltI (Int.ofNat i) 60))) (.bool false)]:=by delta QT;kernel_rfl
theorem naW (cs:List SV) (n:Nat) (b:Nat→Bool) (j:Nat→Int) (l:Obs) (m:Int):QA (foC cs) fNa nNa vNa pNa 6 (k1Na.drop 3) (List.range 60) (fun i=>sNa n i b j l m) (fun i=>sNa n (i + 1) b j l m) .normal (fun _=>[]):=by delta QA;kernel_rfl
theorem naY (cs:List SV) (n i:Nat) (b:Nat→Bool) (j:Nat→Int) (l:Obs) (m:Int):QA (foC cs) fNa nNa vNa pNi 6 (k2Na.take 2) (List.range 8) (fun k=>sNi n i b j l m k) (fun k=>sNi n i b j l m k) .normal (fun _=>[]):=by delta QA;kernel_rfl
theorem naJ (cs:List SV) (n i:Nat) (b:Nat→Bool) (j:Nat→Int) (l:Obs) (m:Int):QT (foC cs) fNa nNa vNa pNa 6 (k2Na.take 2) (sNi n i b j l m 8) (sNa n i b j l m) (.exit 3) []:=by delta QT;kernel_rfl
theorem naU (cs:List SV) (n i:Nat) (b:Nat→Bool) (j:Nat→Int) (l:Obs) (m:Int):QA (foC cs) fNa nNa vNa pNi 6 (k2Na.drop 3) (List.range 8) (fun k=>sNi n i b j l m k) (fun k=>sNi n i b j l m (k + 1)) .normal (fun _=>[]):=by delta QA;kernel_rfl
theorem naF (cs:List SV) (n i:Nat) (b:Nat→Bool) (j:Nat→Int) (l:Obs) (m:Int):QE (foC cs) fNa nNa rsNa (kNa.drop 10) (sNa n i b j l m) []:=by delta QE;kernel_rfl
end
end Go.Proofs.YtobooojhmgicpaaGreatDoor.W.E
