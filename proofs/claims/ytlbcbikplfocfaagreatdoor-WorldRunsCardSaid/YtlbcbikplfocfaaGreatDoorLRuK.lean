/- LRuK -/
import Derived.Test.YtlbcbikplfocfaaGreatDoorLRuG
set_option linter.unusedVariables false
set_option linter.unusedSimpArgs false
namespace Go.Proofs.YtlbcbikplfocfaaGreatDoor.W.E
section
set_option maxRecDepth 100000
open Go.RowKit
section
variable {z:Obs} {m F O Bo:Int} {u p d c n q w:Nat} {xs:List V} {x:Nat→Int} (X:RuH z m F u p d c xs x)
include X in
theorem tRuu_ok (hn:n≤12) (hq:n + q=p) (hw:w + q=d):(tRuu (Int.ofNat p) d c xs ((xs.drop w).take q) q w (lZ [] z) m F n).ok:=by
 obtain ⟨x1,x2,x3,x4,x5⟩:xs.length=d + c∧p≤9∧d≤p∧c≤4∧n≤12:=⟨X.len,X.hp,X.hd,X.hc,hn⟩
 unfold tRuu
 exact And.intro (zItems' X.eF rfl) (And.intro (zKind X.eF rfl) (And.intro (o_nlt (by simp only [Int.ofNat_eq_natCast];omega)) (And.intro (slL rfl (by omega) (by omega)) (And.intro (o_nlt (by simp only [Int.ofNat_eq_natCast];omega)) (And.intro (o_nlt (by simp only [Int.ofNat_eq_natCast];omega)) (And.intro (o_nlt (by simp only [Int.ofNat_eq_natCast];omega)) (And.intro (o_nlt (by simp only [Int.ofNat_eq_natCast];omega)) (And.intro (slH (zB (by kernel_rfl)) (by omega)) (And.intro (slL rfl (by omega) (by omega)) (And.intro (zItems' X.eF rfl) (And.intro (zKind X.eF rfl) (And.intro (o_nlt (by simp only [Int.ofNat_eq_natCast];omega)) (And.intro (slL rfl (by omega) (by omega)) (And.intro (o_nlt (by simp only [Int.ofNat_eq_natCast];omega)) (And.intro (o_nlt (by simp only [Int.ofNat_eq_natCast];omega)) (And.intro (o_nlt (by simp only [Int.ofNat_eq_natCast];omega)) (And.intro (o_nlt (by simp only [Int.ofNat_eq_natCast];omega)) (And.intro (slH (zB (by kernel_rfl)) (by omega)) (And.intro (slL rfl (by omega) (by omega)) (And.intro (subN (by omega) (by omega)) (And.intro (o_nlt (by simp only [Int.ofNat_eq_natCast];omega)) (And.intro (o_nlt (by simp only [Int.ofNat_eq_natCast];omega)) (And.intro (subN (by omega) (by omega)) (And.intro (slL rfl (by omega) (by omega)) (And.intro (concOk (by omega) (by simp only [rwL_len];omega)) (And.intro (zNum X.eF rfl) (trivial)))))))))))))))))))))))))))
include X in
theorem tRub_ok (eB:get (lZ [] z) Bo=some (oBo O F)) (hn:n≤12) (hq:n + 1 + q=p) (hw:w + q=d):(tRub (Int.ofNat p) d c xs ((xs.drop w).take q) q w (lZ [] z) m F O Bo n).ok:=by
 obtain ⟨x1,x2,x3,x4,x5⟩:xs.length=d + c∧p≤9∧d≤p∧c≤4∧n≤12:=⟨X.len,X.hp,X.hd,X.hc,hn⟩
 unfold tRub
 exact And.intro (zItems' eB rfl) (And.intro (zKind eB rfl) (And.intro (zKind eB rfl) (And.intro (zItems' eB rfl) (And.intro (zItems' X.eF rfl) (And.intro (zKind X.eF rfl) (And.intro (o_nlt (by simp only [Int.ofNat_eq_natCast];omega)) (And.intro (slL rfl (by omega) (by omega)) (And.intro (o_nlt (by simp only [Int.ofNat_eq_natCast];omega)) (And.intro (o_nlt (by simp only [Int.ofNat_eq_natCast];omega)) (And.intro (o_nlt (by simp only [Int.ofNat_eq_natCast];omega)) (And.intro (o_nlt (by simp only [Int.ofNat_eq_natCast];omega)) (And.intro (slH (zB (by kernel_rfl)) (by omega)) (And.intro (slL rfl (by omega) (by omega)) (And.intro (subN (by omega) (by omega)) (And.intro (o_nlt (by simp only [Int.ofNat_eq_natCast];omega)) (And.intro (o_nlt (by simp only [Int.ofNat_eq_natCast];omega)) (And.intro (subN (by omega) (by omega)) (And.intro (slL rfl (by omega) (by omega)) (And.intro (concOk (by omega) (by simp only [rwL_len];omega)) (And.intro (zNum X.eF rfl) (trivial)))))))))))))))))))))
include X in
theorem tRu0_ok (hn:n≤12) (hq:q=p) (hw:w + q=d):(tRu0 (Int.ofNat p) d c xs q w (lZ [] z) m F ((xs.drop w).take q)).ok:=by
 obtain ⟨x1,x2,x3,x4,x5⟩:xs.length=d + c∧p≤9∧d≤p∧c≤4∧n≤12:=⟨X.len,X.hp,X.hd,X.hc,hn⟩
 unfold tRu0
 exact And.intro (zItems' X.eF rfl) (And.intro (zKind X.eF rfl) (And.intro (o_nlt (by simp only [Int.ofNat_eq_natCast];omega)) (And.intro (slL rfl (by omega) (by omega)) (And.intro (o_nlt (by simp only [Int.ofNat_eq_natCast];omega)) (And.intro (o_nlt (by simp only [Int.ofNat_eq_natCast];omega)) (And.intro (o_nlt (by simp only [Int.ofNat_eq_natCast];omega)) (And.intro (o_nlt (by simp only [Int.ofNat_eq_natCast];omega)) (And.intro (slH (zB (by kernel_rfl)) (by omega)) (And.intro (slL rfl (by omega) (by omega)) (And.intro (zItems' X.eF rfl) (And.intro (zKind X.eF rfl) (And.intro (o_nlt (by simp only [Int.ofNat_eq_natCast];omega)) (And.intro (slL rfl (by omega) (by omega)) (And.intro (o_nlt (by simp only [Int.ofNat_eq_natCast];omega)) (And.intro (o_nlt (by simp only [Int.ofNat_eq_natCast];omega)) (And.intro (o_nlt (by simp only [Int.ofNat_eq_natCast];omega)) (And.intro (o_nlt (by simp only [Int.ofNat_eq_natCast];omega)) (And.intro (slH (zB (by kernel_rfl)) (by omega)) (And.intro (slL rfl (by omega) (by omega)) (And.intro (subN (by omega) (by omega)) (And.intro (o_nlt (by simp only [Int.ofNat_eq_natCast];omega)) (And.intro (o_nlt (by simp only [Int.ofNat_eq_natCast];omega)) (And.intro (subN (by omega) (by omega)) (And.intro (slL rfl (by omega) (by omega)) (And.intro (concOk (args:=[]) (by omega) (by simp only [List.length_nil];omega)) (And.intro (zNum X.eF rfl) (trivial)))))))))))))))))))))))))))
include X in
theorem tRuv_ok (hn:n≤12) (hq:p < n):(tRuv (Int.ofNat p) d c xs ((p:Int) - (n:Nat)) z m F n).ok:=by
 obtain ⟨x1,x2,x3,x4,x5⟩:xs.length=d + c∧p≤9∧d≤p∧c≤4∧n≤12:=⟨X.len,X.hp,X.hd,X.hc,hn⟩
 unfold tRuv
 refine TL.ok_app ?_ (TL.ok_app (qRaise_ok X.H (by have:=X.hu;simp only [uMax] at this ⊢;omega) (by decide)) trivial)
 exact And.intro (zItems' X.eF rfl) (And.intro (zKind X.eF rfl) (And.intro (o_nlt (by simp only [Int.ofNat_eq_natCast];omega)) (And.intro (slL rfl (by omega) (by omega)) (And.intro (o_nlt (by simp only [Int.ofNat_eq_natCast];omega)) (And.intro (o_nlt (by simp only [Int.ofNat_eq_natCast];omega)) (And.intro (o_nlt (by simp only [Int.ofNat_eq_natCast];omega)) (And.intro (o_nlt (by simp only [Int.ofNat_eq_natCast];omega)) (And.intro (slH (zB (by kernel_rfl)) (by omega)) (And.intro (slL rfl (by omega) (by omega)) (And.intro (zItems' X.eF rfl) (And.intro (zKind X.eF rfl) (And.intro (o_nlt (by simp only [Int.ofNat_eq_natCast];omega)) (And.intro (slL rfl (by omega) (by omega)) (And.intro (o_nlt (by simp only [Int.ofNat_eq_natCast];omega)) (And.intro (o_nlt (by simp only [Int.ofNat_eq_natCast];omega)) (And.intro (o_nlt (by simp only [Int.ofNat_eq_natCast];omega)) (And.intro (o_nlt (by simp only [Int.ofNat_eq_natCast];omega)) (And.intro (slH (zB (by kernel_rfl)) (by omega)) (And.intro (slL rfl (by omega) (by omega)) (And.intro (subZ (by omega) (by omega)) (And.intro (o_lt (by omega)) (trivial))))))))))))))))))))))
include X in
theorem tRuw_ok (eB:get (lZ [] z) Bo=some (oBo O F)) (hn:n≤12) (hq:p < n + 1):(tRuw (Int.ofNat p) d c xs ((p:Int) - (n + 1:Nat)) z m F O Bo n).ok:=by
 obtain ⟨x1,x2,x3,x4,x5⟩:xs.length=d + c∧p≤9∧d≤p∧c≤4∧n≤12:=⟨X.len,X.hp,X.hd,X.hc,hn⟩
 unfold tRuw
 refine TL.ok_app ?_ (TL.ok_app (qRaise_ok X.H (by have:=X.hu;simp only [uMax] at this ⊢;omega) (by decide)) trivial)
 exact And.intro (zItems' eB rfl) (And.intro (zKind eB rfl) (And.intro (zKind eB rfl) (And.intro (zItems' eB rfl) (And.intro (zItems' X.eF rfl) (And.intro (zKind X.eF rfl) (And.intro (o_nlt (by simp only [Int.ofNat_eq_natCast];omega)) (And.intro (slL rfl (by omega) (by omega)) (And.intro (o_nlt (by simp only [Int.ofNat_eq_natCast];omega)) (And.intro (o_nlt (by simp only [Int.ofNat_eq_natCast];omega)) (And.intro (o_nlt (by simp only [Int.ofNat_eq_natCast];omega)) (And.intro (o_nlt (by simp only [Int.ofNat_eq_natCast];omega)) (And.intro (slH (zB (by kernel_rfl)) (by omega)) (And.intro (slL rfl (by omega) (by omega)) (And.intro (subZ (by omega) (by omega)) (And.intro (o_lt (by omega)) (trivial))))))))))))))))
include X in
theorem tRux_ok (hn:n≤12) (hq:n + d < p):(tRux (Int.ofNat p) d c xs ((p:Int) - (n:Nat)) z m F n).ok:=by
 obtain ⟨x1,x2,x3,x4,x5⟩:xs.length=d + c∧p≤9∧d≤p∧c≤4∧n≤12:=⟨X.len,X.hp,X.hd,X.hc,hn⟩
 unfold tRux
 refine TL.ok_app ?_ (TL.ok_app (qRaise_ok X.H (by have:=X.hu;simp only [uMax] at this ⊢;omega) (by decide)) trivial)
 exact And.intro (zItems' X.eF rfl) (And.intro (zKind X.eF rfl) (And.intro (o_nlt (by simp only [Int.ofNat_eq_natCast];omega)) (And.intro (slL rfl (by omega) (by omega)) (And.intro (o_nlt (by simp only [Int.ofNat_eq_natCast];omega)) (And.intro (o_nlt (by simp only [Int.ofNat_eq_natCast];omega)) (And.intro (o_nlt (by simp only [Int.ofNat_eq_natCast];omega)) (And.intro (o_nlt (by simp only [Int.ofNat_eq_natCast];omega)) (And.intro (slH (zB (by kernel_rfl)) (by omega)) (And.intro (slL rfl (by omega) (by omega)) (And.intro (zItems' X.eF rfl) (And.intro (zKind X.eF rfl) (And.intro (o_nlt (by simp only [Int.ofNat_eq_natCast];omega)) (And.intro (slL rfl (by omega) (by omega)) (And.intro (o_nlt (by simp only [Int.ofNat_eq_natCast];omega)) (And.intro (o_nlt (by simp only [Int.ofNat_eq_natCast];omega)) (And.intro (o_nlt (by simp only [Int.ofNat_eq_natCast];omega)) (And.intro (o_nlt (by simp only [Int.ofNat_eq_natCast];omega)) (And.intro (slH (zB (by kernel_rfl)) (by omega)) (And.intro (slL rfl (by omega) (by omega)) (And.intro (subZ (by omega) (by omega)) (And.intro (o_nlt (by omega)) (And.intro (o_lt (by simp only [Int.ofNat_eq_natCast];omega)) (trivial)))))))))))))))))))))))
include X in
theorem tRuy_ok (eB:get (lZ [] z) Bo=some (oBo O F)) (hn:n≤12) (hq:n + 1 + d < p):(tRuy (Int.ofNat p) d c xs ((p:Int) - (n + 1:Nat)) z m F O Bo n).ok:=by
 obtain ⟨x1,x2,x3,x4,x5⟩:xs.length=d + c∧p≤9∧d≤p∧c≤4∧n≤12:=⟨X.len,X.hp,X.hd,X.hc,hn⟩
 unfold tRuy
 refine TL.ok_app ?_ (TL.ok_app (qRaise_ok X.H (by have:=X.hu;simp only [uMax] at this ⊢;omega) (by decide)) trivial)
 exact And.intro (zItems' eB rfl) (And.intro (zKind eB rfl) (And.intro (zKind eB rfl) (And.intro (zItems' eB rfl) (And.intro (zItems' X.eF rfl) (And.intro (zKind X.eF rfl) (And.intro (o_nlt (by simp only [Int.ofNat_eq_natCast];omega)) (And.intro (slL rfl (by omega) (by omega)) (And.intro (o_nlt (by simp only [Int.ofNat_eq_natCast];omega)) (And.intro (o_nlt (by simp only [Int.ofNat_eq_natCast];omega)) (And.intro (o_nlt (by simp only [Int.ofNat_eq_natCast];omega)) (And.intro (o_nlt (by simp only [Int.ofNat_eq_natCast];omega)) (And.intro (slH (zB (by kernel_rfl)) (by omega)) (And.intro (slL rfl (by omega) (by omega)) (And.intro (subZ (by omega) (by omega)) (And.intro (o_nlt (by omega)) (And.intro (o_lt (by simp only [Int.ofNat_eq_natCast];omega)) (trivial)))))))))))))))))
end
end
end Go.Proofs.YtlbcbikplfocfaaGreatDoor.W.E
