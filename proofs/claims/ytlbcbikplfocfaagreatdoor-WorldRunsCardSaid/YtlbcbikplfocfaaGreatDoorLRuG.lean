/- LRuG -/
import Derived.Test.YtlbcbikplfocfaaGreatDoorLRuF
import Derived.Test.YtlbcbikplfocfaaGreatDoorLRuC
import Derived.Test.YtlbcbikplfocfaaGreatDoorLRuD
set_option linter.unusedVariables false
set_option linter.unusedSimpArgs false
namespace Go.Proofs.YtlbcbikplfocfaaGreatDoor.W.E
section
set_option maxRecDepth 100000
open Go.RowKit
structure RuH (z:Obs) (m F:Int) (u p d c:Nat) (xs:List V) (x:Nat→Int):Prop where
 H:HJ (lZ [] z) m u
 hu:u + 400≤uMax
 eF:get (lZ [] z) F=some (oFn 5 (vnum (Int.ofNat p) :: vnum (Int.ofNat d) :: xs))
 len:xs.length=d + c
 cell:∀ i,i < c→get (lZ [] z) (x i)=some (oCe (Int.ofNat i))
 rest:xs.drop d=rwL (fun i=>vr (x i)) c
 df:∀ i,i < d→xs[i]?=some (vnum (Int.ofNat (100 + i)))
 hp:p≤9
 hd:d≤p
 hc:c≤4
theorem slL {b off n lo n2 t:Nat} {x:Operand} (hx:evx (mkT [(t,SV.int .i64 (Int.ofNat lo))]) x=some (.int .i64 (Int.ofNat lo))) (h:lo≤n) (h2:n - lo=n2) :
  sliceV Tryz.prog (mkT [(t,.int .i64 (Int.ofNat lo))]) 29 (.sl b off n 3 none) (some x) none none=some (.sl b (off + lo * 3) n2 3 none):=by
 have hU:Tryz.prog.underlying 29=some (.slice 27):=by kernel_rfl
 have hs:szT Tryz.prog 27=some 3:=by kernel_rfl
 have hn:natLe (Int.ofNat lo) n=some lo:=by
  show (bif Nat.ble lo n then some lo else none)=_
  rw [Nat.ble_eq_true_of_le h];rfl
 unfold sliceV
 rw [hU]
 simp only [hs,bounds3,bdV,hx,hn,h2]
 simp
theorem slH {b off n hi t:Nat} (ht:t < TMax) (h:hi≤n) :
  sliceV Tryz.prog (mkT [(t,.int .i64 (Int.ofNat hi))]) 29 (.sl b off n 3 none) none (some (.tmp t)) none=some (.sl b off hi 3 none):=by
 have hU:Tryz.prog.underlying 29=some (.slice 27):=by kernel_rfl
 have hs:szT Tryz.prog 27=some 3:=by kernel_rfl
 have hx:evx (mkT [(t,SV.int .i64 (Int.ofNat hi))]) (.tmp t)=some (.int .i64 (Int.ofNat hi)):=by
  exact T.upd_same _ _ ht
 have hn:natLe (Int.ofNat hi) n=some hi:=by
  show (bif Nat.ble hi n then some hi else none)=_
  rw [Nat.ble_eq_true_of_le h];rfl
 unfold sliceV
 rw [hU]
 simp only [hs,bounds3,bdV,hx,knowC,hn]
 simp
theorem subN {a b c:Nat} (h:b + c=a) (h1:a≤1000):some (SV.int .i64 (wrapF .i64 (Int.sub (Int.ofNat a) (Int.ofNat b))))=some (.int .i64 (Int.ofNat c)):=o_sub (by simp only [Int.ofNat_eq_natCast];omega)
theorem subZ {a b:Nat} (h1:a≤1000) (h2:b≤1000):some (SV.int .i64 (wrapF .i64 (Int.sub (Int.ofNat a) (Int.ofNat b))))=some (.int .i64 ((a:Int) - (b:Nat))):=o_sub (by simp only [Int.ofNat_eq_natCast];omega)
theorem rwV_eq (g:Nat→V) (r:Nat):rwV g r=(rwL g r).flatMap V.svc:=by
 unfold rwV rwL;rw [List.flatMap_map]
theorem flat_drop:∀ (L:List V) (k:Nat),(L.flatMap V.svc).drop (k * 3)=(L.drop k).flatMap V.svc
 | [],k=>by simp
 | v :: t,0=>by simp
 | v :: t,k + 1=>by
  rw [List.flatMap_cons,show (k + 1) * 3=3 + k * 3 by omega,← List.drop_drop]
  show ((v.svc++t.flatMap V.svc).drop 3).drop (k * 3)=_
  rw [show (v.svc++t.flatMap V.svc).drop 3=t.flatMap V.svc from rfl,flat_drop t k]
  rfl
theorem flat_take:∀ (L:List V) (k:Nat),(L.flatMap V.svc).take (k * 3)=(L.take k).flatMap V.svc
 | [],k=>by simp
 | v :: t,0=>by simp
 | v :: t,k + 1=>by
  rw [List.flatMap_cons,List.take_succ_cons,List.flatMap_cons,show (k + 1) * 3=3 + k * 3 by omega,← flat_take t k]
  rw [List.take_append,List.take_of_length_le (by simp [V.svc]),show 3 + k * 3 - v.svc.length=k * 3 by simp [V.svc]]
theorem toVs_flat:∀ (L:List V),toVs (L.flatMap V.svc)=some L
 | []=>rfl
 | v :: t=>by
  show (match some (⟨v.k,v.n,v.s⟩:V) with
   | some v=>(match toVs (t.flatMap V.svc) with
    | some l=>some (v :: l)
    | none=>none)
   | none=>none)=_
  rw [toVs_flat t]
theorem rowC_of (L:List V) {k q:Nat} (h:k + q≤L.length) (hq:q≤1048576):rowC (L.flatMap V.svc) 3 (k * 3) q=some ((L.drop k).take q):=by
 unfold rowC
 have h1:Nat.ble (k * 3 + q * 3) (L.flatMap V.svc).length=true:=Nat.ble_eq_true_of_le (by rw [flat_svc];omega)
 rw [h1,Nat.ble_eq_true_of_le hq,flat_drop,flat_take,toVs_flat]
 rfl
theorem concOk {args xs:List V} {p d q w:Nat} (h:w + q≤xs.length) (hs:args.length + q≤1000):concP args (rwI (Int.ofNat p) d xs) 3 (6 + w * 3) q (args++(xs.drop w).take q):=by
 refine ⟨(xs.drop w).take q,?_,rfl,?_⟩
 ·rw [show 6 + w * 3=(2 + w) * 3 by omega]
  unfold rwI
  rw [rowC_of _ (by simp only [List.length_cons];omega) (by omega),show 2 + w=w + 1 + 1 by omega]
  rfl
 ·rw [List.length_append,List.length_take];omega
end
end Go.Proofs.YtlbcbikplfocfaaGreatDoor.W.E
