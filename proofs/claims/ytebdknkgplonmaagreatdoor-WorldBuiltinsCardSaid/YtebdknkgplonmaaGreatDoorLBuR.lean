/- LBuR -/
import Derived.Test.YtebdknkgplonmaaGreatDoorPart28
set_option linter.unusedVariables false
set_option linter.unusedSimpArgs false
namespace Go.Proofs.YtebdknkgplonmaaGreatDoor.W.E
section
set_option maxRecDepth 100000
open Go.RowKit
noncomputable abbrev gR (l:List Code) (s:T SV × St HX):ExR HX:=goBu l s.1 s.2
abbrev RR (l:List Code) (s s2:T SV × St HX) (x:Ex):Prop:=outC liveBu keepBu 5 (gR l s)=outD x s2.1 s2.2 [] (gR l s)
abbrev RA (l:List Code) (is:List Nat) (s s2:Nat→T SV × St HX) (x:Ex):Prop:=(is.map fun i=>outC liveBu keepBu 5 (gR l (s i)))=is.map fun i=>outD x (s2 i).1 (s2 i).2 [] (gR l (s i))
theorem RA.at {l:List Code} {is:List Nat} {s s2:Nat→T SV × St HX} {x:Ex} (h:RA l is s s2 x) {i:Nat} (hi:i∈is):RR l (s i) (s2 i) x:=List.map_inj_left.1 h i hi
abbrev i16:List Nat:=[0,1,2,3,4,5,6,7,8,9,10,11,12,13,14,15]
theorem buA4 (kn:Bool) (t out:List UInt8) (h:Hp):RA (lbBu.take 2) i16 (fun i=>sBu 4 i kn t out h) (fun i=>sBu 4 i kn t out h) .normal:=by delta RA;kernel_rfl
theorem buE4 (kn:Bool) (t out:List UInt8) (h:Hp):RR (lbBu.take 2) (sBu 4 16 kn t out h) (sBu 4 16 kn t out h) (.exit 0):=by delta RR;kernel_rfl
theorem buT4 (t out:List UInt8) (h:Hp):RA (inBu.take 1) i16 (fun i=>sBu 4 i true t out h) (fun i=>sBu 4 i true t out h) .normal:=by delta RA;kernel_rfl
theorem buF4 (t out:List UInt8) (h:Hp):RA (inBu.take 1) i16 (fun i=>sBu 4 i false t out h) (fun i=>sBu 4 i (eqB (bName i) t) t out h) .normal:=by delta RA;kernel_rfl
theorem buD4 (kn:Bool) (t out:List UInt8) (h:Hp):RA (lbBu.drop 3) i16 (fun i=>sBu 4 i kn t out h) (fun i=>sBu 4 (i + 1) kn t out h) .normal:=by delta RA;kernel_rfl
theorem buA5 (kn:Bool) (t out:List UInt8) (h:Hp):RA (lbBu.take 2) i16 (fun i=>sBu 5 i kn t out h) (fun i=>sBu 5 i kn t out h) .normal:=by delta RA;kernel_rfl
theorem buE5 (kn:Bool) (t out:List UInt8) (h:Hp):RR (lbBu.take 2) (sBu 5 16 kn t out h) (sBu 5 16 kn t out h) (.exit 0):=by delta RR;kernel_rfl
theorem buT5 (t out:List UInt8) (h:Hp):RA (inBu.take 1) i16 (fun i=>sBu 5 i true t out h) (fun i=>sBu 5 i true t out h) .normal:=by delta RA;kernel_rfl
theorem buF5 (t out:List UInt8) (h:Hp):RA (inBu.take 1) i16 (fun i=>sBu 5 i false t out h) (fun i=>sBu 5 i (eqB (bName i) t) t out h) .normal:=by delta RA;kernel_rfl
theorem buD5 (kn:Bool) (t out:List UInt8) (h:Hp):RA (lbBu.drop 3) i16 (fun i=>sBu 5 i kn t out h) (fun i=>sBu 5 (i + 1) kn t out h) .normal:=by delta RA;kernel_rfl
theorem buA6 (kn:Bool) (t out:List UInt8) (h:Hp):RA (lbBu.take 2) i16 (fun i=>sBu 6 i kn t out h) (fun i=>sBu 6 i kn t out h) .normal:=by delta RA;kernel_rfl
theorem buE6 (kn:Bool) (t out:List UInt8) (h:Hp):RR (lbBu.take 2) (sBu 6 16 kn t out h) (sBu 6 16 kn t out h) (.exit 0):=by delta RR;kernel_rfl
theorem buT6 (t out:List UInt8) (h:Hp):RA (inBu.take 1) i16 (fun i=>sBu 6 i true t out h) (fun i=>sBu 6 i true t out h) .normal:=by delta RA;kernel_rfl
theorem buF6 (t out:List UInt8) (h:Hp):RA (inBu.take 1) i16 (fun i=>sBu 6 i false t out h) (fun i=>sBu 6 i (eqB (bName i) t) t out h) .normal:=by delta RA;kernel_rfl
theorem buD6 (kn:Bool) (t out:List UInt8) (h:Hp):RA (lbBu.drop 3) i16 (fun i=>sBu 6 i kn t out h) (fun i=>sBu 6 (i + 1) kn t out h) .normal:=by delta RA;kernel_rfl
theorem buA7 (kn:Bool) (t out:List UInt8) (h:Hp):RA (lbBu.take 2) i16 (fun i=>sBu 7 i kn t out h) (fun i=>sBu 7 i kn t out h) .normal:=by delta RA;kernel_rfl
theorem buE7 (kn:Bool) (t out:List UInt8) (h:Hp):RR (lbBu.take 2) (sBu 7 16 kn t out h) (sBu 7 16 kn t out h) (.exit 0):=by delta RR;kernel_rfl
theorem buT7 (t out:List UInt8) (h:Hp):RA (inBu.take 1) i16 (fun i=>sBu 7 i true t out h) (fun i=>sBu 7 i true t out h) .normal:=by delta RA;kernel_rfl
theorem buF7 (t out:List UInt8) (h:Hp):RA (inBu.take 1) i16 (fun i=>sBu 7 i false t out h) (fun i=>sBu 7 i (eqB (bName i) t) t out h) .normal:=by delta RA;kernel_rfl
theorem buD7 (kn:Bool) (t out:List UInt8) (h:Hp):RA (lbBu.drop 3) i16 (fun i=>sBu 7 i kn t out h) (fun i=>sBu 7 (i + 1) kn t out h) .normal:=by delta RA;kernel_rfl
theorem buA8 (kn:Bool) (t out:List UInt8) (h:Hp):RA (lbBu.take 2) i16 (fun i=>sBu 8 i kn t out h) (fun i=>sBu 8 i kn t out h) .normal:=by delta RA;kernel_rfl
theorem buE8 (kn:Bool) (t out:List UInt8) (h:Hp):RR (lbBu.take 2) (sBu 8 16 kn t out h) (sBu 8 16 kn t out h) (.exit 0):=by delta RR;kernel_rfl
theorem buT8 (t out:List UInt8) (h:Hp):RA (inBu.take 1) i16 (fun i=>sBu 8 i true t out h) (fun i=>sBu 8 i true t out h) .normal:=by delta RA;kernel_rfl
theorem buF8 (t out:List UInt8) (h:Hp):RA (inBu.take 1) i16 (fun i=>sBu 8 i false t out h) (fun i=>sBu 8 i (eqB (bName i) t) t out h) .normal:=by delta RA;kernel_rfl
theorem buD8 (kn:Bool) (t out:List UInt8) (h:Hp):RA (lbBu.drop 3) i16 (fun i=>sBu 8 i kn t out h) (fun i=>sBu 8 (i + 1) kn t out h) .normal:=by delta RA;kernel_rfl
theorem buA9 (kn:Bool) (t out:List UInt8) (h:Hp):RA (lbBu.take 2) i16 (fun i=>sBu 9 i kn t out h) (fun i=>sBu 9 i kn t out h) .normal:=by delta RA;kernel_rfl
theorem buE9 (kn:Bool) (t out:List UInt8) (h:Hp):RR (lbBu.take 2) (sBu 9 16 kn t out h) (sBu 9 16 kn t out h) (.exit 0):=by delta RR;kernel_rfl
theorem buT9 (t out:List UInt8) (h:Hp):RA (inBu.take 1) i16 (fun i=>sBu 9 i true t out h) (fun i=>sBu 9 i true t out h) .normal:=by delta RA;kernel_rfl
theorem buF9 (t out:List UInt8) (h:Hp):RA (inBu.take 1) i16 (fun i=>sBu 9 i false t out h) (fun i=>sBu 9 i (eqB (bName i) t) t out h) .normal:=by delta RA;kernel_rfl
theorem buD9 (kn:Bool) (t out:List UInt8) (h:Hp):RA (lbBu.drop 3) i16 (fun i=>sBu 9 i kn t out h) (fun i=>sBu 9 (i + 1) kn t out h) .normal:=by delta RA;kernel_rfl
theorem buA10 (kn:Bool) (t out:List UInt8) (h:Hp):RA (lbBu.take 2) i16 (fun i=>sBu 10 i kn t out h) (fun i=>sBu 10 i kn t out h) .normal:=by delta RA;kernel_rfl
theorem buE10 (kn:Bool) (t out:List UInt8) (h:Hp):RR (lbBu.take 2) (sBu 10 16 kn t out h) (sBu 10 16 kn t out h) (.exit 0):=by delta RR;kernel_rfl
theorem buT10 (t out:List UInt8) (h:Hp):RA (inBu.take 1) i16 (fun i=>sBu 10 i true t out h) (fun i=>sBu 10 i true t out h) .normal:=by delta RA;kernel_rfl
theorem buF10 (t out:List UInt8) (h:Hp):RA (inBu.take 1) i16 (fun i=>sBu 10 i false t out h) (fun i=>sBu 10 i (eqB (bName i) t) t out h) .normal:=by delta RA;kernel_rfl
theorem buD10 (kn:Bool) (t out:List UInt8) (h:Hp):RA (lbBu.drop 3) i16 (fun i=>sBu 10 i kn t out h) (fun i=>sBu 10 (i + 1) kn t out h) .normal:=by delta RA;kernel_rfl
theorem buA11 (kn:Bool) (t out:List UInt8) (h:Hp):RA (lbBu.take 2) i16 (fun i=>sBu 11 i kn t out h) (fun i=>sBu 11 i kn t out h) .normal:=by delta RA;kernel_rfl
theorem buE11 (kn:Bool) (t out:List UInt8) (h:Hp):RR (lbBu.take 2) (sBu 11 16 kn t out h) (sBu 11 16 kn t out h) (.exit 0):=by delta RR;kernel_rfl
theorem buT11 (t out:List UInt8) (h:Hp):RA (inBu.take 1) i16 (fun i=>sBu 11 i true t out h) (fun i=>sBu 11 i true t out h) .normal:=by delta RA;kernel_rfl
theorem buF11 (t out:List UInt8) (h:Hp):RA (inBu.take 1) i16 (fun i=>sBu 11 i false t out h) (fun i=>sBu 11 i (eqB (bName i) t) t out h) .normal:=by delta RA;kernel_rfl
theorem buD11 (kn:Bool) (t out:List UInt8) (h:Hp):RA (lbBu.drop 3) i16 (fun i=>sBu 11 i kn t out h) (fun i=>sBu 11 (i + 1) kn t out h) .normal:=by delta RA;kernel_rfl
theorem buA12 (kn:Bool) (t out:List UInt8) (h:Hp):RA (lbBu.take 2) i16 (fun i=>sBu 12 i kn t out h) (fun i=>sBu 12 i kn t out h) .normal:=by delta RA;kernel_rfl
theorem buE12 (kn:Bool) (t out:List UInt8) (h:Hp):RR (lbBu.take 2) (sBu 12 16 kn t out h) (sBu 12 16 kn t out h) (.exit 0):=by delta RR;kernel_rfl
theorem buT12 (t out:List UInt8) (h:Hp):RA (inBu.take 1) i16 (fun i=>sBu 12 i true t out h) (fun i=>sBu 12 i true t out h) .normal:=by delta RA;kernel_rfl
theorem buF12 (t out:List UInt8) (h:Hp):RA (inBu.take 1) i16 (fun i=>sBu 12 i false t out h) (fun i=>sBu 12 i (eqB (bName i) t) t out h) .normal:=by delta RA;kernel_rfl
theorem buD12 (kn:Bool) (t out:List UInt8) (h:Hp):RA (lbBu.drop 3) i16 (fun i=>sBu 12 i kn t out h) (fun i=>sBu 12 (i + 1) kn t out h) .normal:=by delta RA;kernel_rfl
abbrev scEnd:List (Nat × Sc):=i16.map fun j=>(106 + 13 * j,.val (.bool false))
abbrev psEnd (t:List UInt8):List Prop:=[15,14,13,12,11,10,9,8,7,6,5,4,3,2,1,0].map fun j=>(some (SV.bool (eqB (bName j) t))=some (SV.bool false))
noncomputable abbrev rsBu:Array ResultVar:=Tryz.f10.results
noncomputable abbrev gEa (m:Nat) (line:List UInt8) (j:Nat):ExR HX:=goBu sufBu (sBu m 16 true (bName j) line (exsBu 15)).1 (sBu m 16 true (bName j) line (exsBu 15)).2
abbrev REa (m:Nat) (line:List UInt8) (j:Nat):Prop:=endC rsBu (gEa m line j)=endD [] (gEa m line j)
noncomputable abbrev gEb (m:Nat) (line t:List UInt8):ExR HX:=goBu sufBu (sBu m 16 false t line (exsBu 15)).1 (withSc (sBu m 16 false t line (exsBu 15)) scEnd)
abbrev REb (m:Nat) (line t:List UInt8):Prop:=endC rsBu (gEb m line t)=endD (psEnd t) (gEb m line t)
structure BuOk (pm m:Nat) (k:Int) (line:List UInt8):Prop where
 pre:∀ (n:Int) (s t:List UInt8) (q:Nat),RPre pm m k n s t q
 a:∀ (kn:Bool) (t out:List UInt8) (h:Hp),RA (lbBu.take 2) i16 (fun i=>sBu m i kn t out h) (fun i=>sBu m i kn t out h) .normal
 e:∀ (kn:Bool) (t out:List UInt8) (h:Hp),RR (lbBu.take 2) (sBu m 16 kn t out h) (sBu m 16 kn t out h) (.exit 0)
 tt:∀ (t out:List UInt8) (h:Hp),RA (inBu.take 1) i16 (fun i=>sBu m i true t out h) (fun i=>sBu m i true t out h) .normal
 ff:∀ (t out:List UInt8) (h:Hp),RA (inBu.take 1) i16 (fun i=>sBu m i false t out h) (fun i=>sBu m i (eqB (bName i) t) t out h) .normal
 d:∀ (kn:Bool) (t out:List UInt8) (h:Hp),RA (lbBu.drop 3) i16 (fun i=>sBu m i kn t out h) (fun i=>sBu m (i + 1) kn t out h) .normal
 c0:∀ (kn:Bool) (t:List UInt8),RR (inBu.drop 1) (sBu m 0 kn t [] hBu) (sBu m 0 kn t line hBu) .normal
 c:∀ i,1≤i→i < 16→∀ (kn:Bool) (t out:List UInt8),RR (inBu.drop 1) (sBu m i kn t out (exsBu (i - 1))) (sBu m i kn t out (exsBu i)) .normal
 ea:∀ j,j < 16→REa m line j
 eb:∀ t,REb m line t
end
end Go.Proofs.YtebdknkgplonmaaGreatDoor.W.E
