/- Put together by pack2.py. -/
import Derived.Test.YtpkhgapifnjbeaaDoorProg
import Derived.Below
import Derived.Deep.Draws
import Derived.Deep.AppendLies
import Derived.Maps.AppendAt
import Derived.OwnWalk
import Derived.Laws.BytesArg
import Derived.Laws.MakeOwn
import Derived.Laws.OwnMore
import Derived.Deep.OwnRows
import Derived.Tactics
import Derived.Lib.ConvBytes
import Derived.Laws.Slices
import Derived.WalkKit
import Derived.KernelRfl
import Derived.RowKit3
import Derived.Deep.LoopGhost
import Derived.Deep.QuietTactic
import Derived.BigQuiet
import Derived.WideLaws
import Derived.Deep.DeepCutAuto
import Derived.Deep.CutBlock
import Derived.Deep.RegionHeld3
import Derived.Laws.Rows
import Derived.Lib.AppendStr
import Derived.ArgAppend
import Derived.Laws.IdiomCopy
import Derived.OrdersHeld
import Derived.Laws.BitsLemmas
import Derived.RowKit
import Derived.Laws.CopyOwn
import Derived.Outline
import Derived.LoopTactic
import Derived.WalkSpells
import Derived.Test.YtpkhgapifnjbeaaDoorMB1
section
namespace Go.Proofs.YtpkhgapifnjbeaaDoor.L
open Go.RowKit Go.Proofs.YtpkhgapifnjbeaaDoor.G Go.Proofs.YtpkhgapifnjbeaaDoorW.PrintWords Go.Proofs.YtpkhgapifnjbeaaDoorW.PrintLast Go.Proofs.YtpkhgapifnjbeaaDoorW.PrintMore
attribute [local go_sem] qc_ sc_ cd_ dd_ jc_ kc_ rc_ tc_
set_option linter.unusedVariables false
set_option linter.unusedSimpArgs false
mutual
def fa_.l0 : Nat → List Int → List Int → Int → List Int → List Int → Int → Int → Option (List Int × Bool)
 | 0, _, _, _, _, _, _, _ => none
 | k + 1, x0, x1, x2, x8, x30, x31, x32 => if x32 < x31 then (if 0 ≤ x32 then (if x32 < (x30.length : Int) then (if x8.length < 17592186044416 then ((some (x8 ++ [0] : List Int)).bind fun y105 => (fa_.l1 k x0 x1 x2 y105 (rd x30 x32) (wrap64 ((y105.length : Int) - 1)) x30 x31 x32)) else (none)) else (none)) else (none)) else ((xi_.f x0).bind fun t114 => (if 0 ≤ (wrap64 (6 - (x1.length : Int))) then (if (wrap64 (6 - (x1.length : Int)) : Int).toNat ≤ 35184372088832 then ((some (List.replicate (wrap64 (6 - (x1.length : Int)) : Int).toNat 0 : List Int)).bind fun y117 => (fa_.l2 k x0 x1 x2 x8 t114 y117 (y117.length : Int) 0)) else (none)) else (none)))
def fa_.l1 : Nat → List Int → List Int → Int → List Int → Int → Int → List Int → Int → Int → Option (List Int × Bool)
 | 0, _, _, _, _, _, _, _, _, _ => none
 | k + 1, x0, x1, x2, x8, x10, x11, x30, x31, x32 => if x11 > 0 then (if 0 ≤ x11 then (if x11 < (x8.length : Int) then (if 0 ≤ (wrap64 (x11 - 1)) then (if (wrap64 (x11 - 1)) < (x8.length : Int) then ((g_at.f x0 x10 1).bind fun t110 => ((ie_.f (rd x8 (wrap64 (x11 - 1))) t110).bind fun t111 => ((qe_.f (rd x8 x11) t111).bind fun t112 => (fa_.l1 k x0 x1 x2 (x8.set (x11 : Int).toNat t112) x10 (wrap64 (x11 - 1)) x30 x31 x32)))) else (none)) else (none)) else (none)) else (none)) else (fa_.l0 k x0 x1 x2 x8 x30 x31 (wrap64 (x32 + 1)))
def fa_.l2 : Nat → List Int → List Int → Int → List Int → List Int → List Int → Int → Int → Option (List Int × Bool)
 | 0, _, _, _, _, _, _, _, _ => none
 | k + 1, x0, x1, x2, x8, x12, x13, x71, x72 => if x72 < x71 then (fa_.l3 k x0 x1 x2 x8 x12 x13 x72 x71 x72 x8 (x8.length : Int) 0) else (if x2 = 0 then (some (([] : List Int), true)) else (fa_.l4 k x0 x2 x13 ([] : List (List Int)) (wrap64 ((x13.length : Int) - x2)) 0))
def fa_.l3 : Nat → List Int → List Int → Int → List Int → List Int → List Int → Int → Int → Int → List Int → Int → Int → Option (List Int × Bool)
 | 0, _, _, _, _, _, _, _, _, _, _, _, _ => none
 | k + 1, x0, x1, x2, x8, x12, x13, x14, x71, x72, x75, x76, x77 => if x77 < x76 then (if 0 ≤ x77 then (if x77 < (x75.length : Int) then (if 0 ≤ x14 then (if x14 < (x13.length : Int) then (if 0 ≤ (wrap64 ((wrap64 (x14 + (x1.length : Int))) - x77)) then (if (wrap64 ((wrap64 (x14 + (x1.length : Int))) - x77)) < (x12.length : Int) then ((ie_.f (rd x75 x77) (rd x12 (wrap64 ((wrap64 (x14 + (x1.length : Int))) - x77)))).bind fun t123 => ((qe_.f (rd x13 x14) t123).bind fun t124 => (fa_.l3 k x0 x1 x2 x8 x12 (x13.set (x14 : Int).toNat t124) x14 x71 x72 x75 x76 (wrap64 (x77 + 1))))) else (none)) else (none)) else (none)) else (none)) else (none)) else (none)) else (fa_.l2 k x0 x1 x2 x8 x12 x13 x71 (wrap64 (x72 + 1)))
def fa_.l4 : Nat → List Int → Int → List Int → List (List Int) → Int → Int → Option (List Int × Bool)
 | 0, _, _, _, _, _, _ => none
 | k + 1, x0, x2, x13, x17, x107, x108 => if x108 < x107 then (fa_.l5 k x0 x2 x13 x17 x108 ([] : List Int) 1 x107 x108) else ((uf_.f x17).bind fun bt137 => (if bt137.2 = true then (fa_.l6 k x0 x2 bt137.1 ([] : List Int) x0 (x0.length : Int) 0) else (some (([] : List Int), false))))
def fa_.l5 : Nat → List Int → Int → List Int → List (List Int) → Int → List Int → Int → Int → Int → Option (List Int × Bool)
 | 0, _, _, _, _, _, _, _, _, _ => none
 | k + 1, x0, x2, x13, x17, x18, x19, x20, x107, x108 => if x20 ≤ x2 then (if 0 ≤ (wrap64 ((wrap64 (x18 + x2)) - x20)) then (if (wrap64 ((wrap64 (x18 + x2)) - x20)) < (x13.length : Int) then (if x19.length < 17592186044416 then (fa_.l5 k x0 x2 x13 x17 x18 (x19 ++ [rd x13 (wrap64 ((wrap64 (x18 + x2)) - x20))]) (wrap64 (x20 + 1)) x107 x108) else (none)) else (none)) else (none)) else (if 0 ≤ (wrap64 (x18 + x2)) then (if (wrap64 (x18 + x2)) < (x13.length : Int) then (if x19.length < 17592186044416 then (if x17.length < 5864062014805 then (fa_.l4 k x0 x2 x13 (x17 ++ [(x19 ++ [rd x13 (wrap64 (x18 + x2))])]) x107 (wrap64 (x108 + 1))) else (none)) else (none)) else (none)) else (none))
def fa_.l6 : Nat → List Int → Int → List Int → List Int → List Int → Int → Int → Option (List Int × Bool)
 | 0, _, _, _, _, _, _, _ => none
 | k + 1, x0, x2, x21, x23, x147, x148, x149 => if x149 < x148 then (if 0 ≤ x149 then (if x149 < (x147.length : Int) then (fa_.l7 k x0 x2 x21 x23 x149 (rd x147 x149) 1 x147 x148 x149 x21 (x21.length : Int) 0) else (none)) else (none)) else (some (x23, ((x23.length : Int) == x2)))
def fa_.l7 : Nat → List Int → Int → List Int → List Int → Int → Int → Int → List Int → Int → Int → List Int → Int → Int → Option (List Int × Bool)
 | 0, _, _, _, _, _, _, _, _, _, _, _, _, _ => none
 | k + 1, x0, x2, x21, x23, x24, x25, x26, x147, x148, x149, x154, x155, x156 => if x156 < x155 then (if 0 ≤ x156 then (if x156 < (x154.length : Int) then ((g_at.f x0 x24 (wrap64 ((wrap64 (-x156)) - 1))).bind fun t143 => ((ie_.f (rd x154 x156) t143).bind fun t144 => ((qe_.f x26 t144).bind fun t145 => (fa_.l7 k x0 x2 x21 x23 x24 x25 t145 x147 x148 x149 x154 x155 (wrap64 (x156 + 1)))))) else (none)) else (none)) else (if x25 = (-1) then (fa_.l6 k x0 x2 x21 x23 x147 x148 (wrap64 (x149 + 1))) else (if x26 = 0 then (if x23.length < 17592186044416 then (fa_.l6 k x0 x2 x21 (x23 ++ [x24]) x147 x148 (wrap64 (x149 + 1))) else (none)) else (fa_.l6 k x0 x2 x21 x23 x147 x148 (wrap64 (x149 + 1)))))
end
def fa_.f (k : Nat) (l0 : List Int) (l1 : List Int) (a2 : Int) : Option (List Int × Bool) := fa_.l0 k l0 l1 a2 (([1] : List Int)) l1 (l1.length : Int) 0
theorem fa_.td_ : ∀ k, (∀ y0 y1 y2 y3 y4 y5 y6, LeO (fa_.l0 k y0 y1 y2 y3 y4 y5 y6) (fa_.l0 (k + 1) y0 y1 y2 y3 y4 y5 y6)) ∧ (∀ y0 y1 y2 y3 y4 y5 y6 y7 y8, LeO (fa_.l1 k y0 y1 y2 y3 y4 y5 y6 y7 y8) (fa_.l1 (k + 1) y0 y1 y2 y3 y4 y5 y6 y7 y8)) ∧ (∀ y0 y1 y2 y3 y4 y5 y6 y7, LeO (fa_.l2 k y0 y1 y2 y3 y4 y5 y6 y7) (fa_.l2 (k + 1) y0 y1 y2 y3 y4 y5 y6 y7)) ∧ (∀ y0 y1 y2 y3 y4 y5 y6 y7 y8 y9 y10 y11, LeO (fa_.l3 k y0 y1 y2 y3 y4 y5 y6 y7 y8 y9 y10 y11) (fa_.l3 (k + 1) y0 y1 y2 y3 y4 y5 y6 y7 y8 y9 y10 y11)) ∧ (∀ y0 y1 y2 y3 y4 y5, LeO (fa_.l4 k y0 y1 y2 y3 y4 y5) (fa_.l4 (k + 1) y0 y1 y2 y3 y4 y5)) ∧ (∀ y0 y1 y2 y3 y4 y5 y6 y7 y8, LeO (fa_.l5 k y0 y1 y2 y3 y4 y5 y6 y7 y8) (fa_.l5 (k + 1) y0 y1 y2 y3 y4 y5 y6 y7 y8)) ∧ (∀ y0 y1 y2 y3 y4 y5 y6, LeO (fa_.l6 k y0 y1 y2 y3 y4 y5 y6) (fa_.l6 (k + 1) y0 y1 y2 y3 y4 y5 y6)) ∧ (∀ y0 y1 y2 y3 y4 y5 y6 y7 y8 y9 y10 y11 y12, LeO (fa_.l7 k y0 y1 y2 y3 y4 y5 y6 y7 y8 y9 y10 y11 y12) (fa_.l7 (k + 1) y0 y1 y2 y3 y4 y5 y6 y7 y8 y9 y10 y11 y12))
 | 0 => ⟨fun _ _ _ _ _ _ _ r h => by simp [fa_.l0] at h, fun _ _ _ _ _ _ _ _ _ r h => by simp [fa_.l1] at h, fun _ _ _ _ _ _ _ _ r h => by simp [fa_.l2] at h, fun _ _ _ _ _ _ _ _ _ _ _ _ r h => by simp [fa_.l3] at h, fun _ _ _ _ _ _ r h => by simp [fa_.l4] at h, fun _ _ _ _ _ _ _ _ _ r h => by simp [fa_.l5] at h, fun _ _ _ _ _ _ _ r h => by simp [fa_.l6] at h, fun _ _ _ _ _ _ _ _ _ _ _ _ _ r h => by simp [fa_.l7] at h⟩
 | k + 1 => by
  obtain ⟨ih0, ih1, ih2, ih3, ih4, ih5, ih6, ih7⟩ := fa_.td_ k
  refine ⟨?_, ?_, ?_, ?_, ?_, ?_, ?_, ?_⟩
  ·intro y0 y1 y2 y3 y4 y5 y6
   unfold fa_.l0
   repeat' first
   | (with_reducible exact ih0 _ _ _ _ _ _ _)
   | (with_reducible exact ih1 _ _ _ _ _ _ _ _ _)
   | (with_reducible exact ih2 _ _ _ _ _ _ _ _)
   | (with_reducible exact ih3 _ _ _ _ _ _ _ _ _ _ _ _)
   | (with_reducible exact ih4 _ _ _ _ _ _)
   | (with_reducible exact ih5 _ _ _ _ _ _ _ _ _)
   | (with_reducible exact ih6 _ _ _ _ _ _ _)
   | (with_reducible exact ih7 _ _ _ _ _ _ _ _ _ _ _ _ _)
   | (with_reducible exact LeO.refl _)
   | (with_reducible exact LeO.none _)
   | (with_reducible refine LeO.ite ?_ ?_)
   | (with_reducible refine LeO.bind ?_ (fun _ => ?_))
   | exact ih0 _ _ _ _ _ _ _
   | exact ih1 _ _ _ _ _ _ _ _ _
   | exact ih2 _ _ _ _ _ _ _ _
   | exact ih3 _ _ _ _ _ _ _ _ _ _ _ _
   | exact ih4 _ _ _ _ _ _
   | exact ih5 _ _ _ _ _ _ _ _ _
   | exact ih6 _ _ _ _ _ _ _
   | exact ih7 _ _ _ _ _ _ _ _ _ _ _ _ _
   | exact LeO.none _
   | refine LeO.ite ?_ ?_
   | refine LeO.bind ?_ (fun _ => ?_)
  ·intro y0 y1 y2 y3 y4 y5 y6 y7 y8
   unfold fa_.l1
   repeat' first
   | (with_reducible exact ih0 _ _ _ _ _ _ _)
   | (with_reducible exact ih1 _ _ _ _ _ _ _ _ _)
   | (with_reducible exact ih2 _ _ _ _ _ _ _ _)
   | (with_reducible exact ih3 _ _ _ _ _ _ _ _ _ _ _ _)
   | (with_reducible exact ih4 _ _ _ _ _ _)
   | (with_reducible exact ih5 _ _ _ _ _ _ _ _ _)
   | (with_reducible exact ih6 _ _ _ _ _ _ _)
   | (with_reducible exact ih7 _ _ _ _ _ _ _ _ _ _ _ _ _)
   | (with_reducible exact LeO.refl _)
   | (with_reducible exact LeO.none _)
   | (with_reducible refine LeO.ite ?_ ?_)
   | (with_reducible refine LeO.bind ?_ (fun _ => ?_))
   | exact ih0 _ _ _ _ _ _ _
   | exact ih1 _ _ _ _ _ _ _ _ _
   | exact ih2 _ _ _ _ _ _ _ _
   | exact ih3 _ _ _ _ _ _ _ _ _ _ _ _
   | exact ih4 _ _ _ _ _ _
   | exact ih5 _ _ _ _ _ _ _ _ _
   | exact ih6 _ _ _ _ _ _ _
   | exact ih7 _ _ _ _ _ _ _ _ _ _ _ _ _
   | exact LeO.none _
   | refine LeO.ite ?_ ?_
   | refine LeO.bind ?_ (fun _ => ?_)
  ·intro y0 y1 y2 y3 y4 y5 y6 y7
   unfold fa_.l2
   repeat' first
   | (with_reducible exact ih0 _ _ _ _ _ _ _)
   | (with_reducible exact ih1 _ _ _ _ _ _ _ _ _)
   | (with_reducible exact ih2 _ _ _ _ _ _ _ _)
   | (with_reducible exact ih3 _ _ _ _ _ _ _ _ _ _ _ _)
   | (with_reducible exact ih4 _ _ _ _ _ _)
   | (with_reducible exact ih5 _ _ _ _ _ _ _ _ _)
   | (with_reducible exact ih6 _ _ _ _ _ _ _)
   | (with_reducible exact ih7 _ _ _ _ _ _ _ _ _ _ _ _ _)
   | (with_reducible exact LeO.refl _)
   | (with_reducible exact LeO.none _)
   | (with_reducible refine LeO.ite ?_ ?_)
   | (with_reducible refine LeO.bind ?_ (fun _ => ?_))
   | exact ih0 _ _ _ _ _ _ _
   | exact ih1 _ _ _ _ _ _ _ _ _
   | exact ih2 _ _ _ _ _ _ _ _
   | exact ih3 _ _ _ _ _ _ _ _ _ _ _ _
   | exact ih4 _ _ _ _ _ _
   | exact ih5 _ _ _ _ _ _ _ _ _
   | exact ih6 _ _ _ _ _ _ _
   | exact ih7 _ _ _ _ _ _ _ _ _ _ _ _ _
   | exact LeO.none _
   | refine LeO.ite ?_ ?_
   | refine LeO.bind ?_ (fun _ => ?_)
  ·intro y0 y1 y2 y3 y4 y5 y6 y7 y8 y9 y10 y11
   unfold fa_.l3
   repeat' first
   | (with_reducible exact ih0 _ _ _ _ _ _ _)
   | (with_reducible exact ih1 _ _ _ _ _ _ _ _ _)
   | (with_reducible exact ih2 _ _ _ _ _ _ _ _)
   | (with_reducible exact ih3 _ _ _ _ _ _ _ _ _ _ _ _)
   | (with_reducible exact ih4 _ _ _ _ _ _)
   | (with_reducible exact ih5 _ _ _ _ _ _ _ _ _)
   | (with_reducible exact ih6 _ _ _ _ _ _ _)
   | (with_reducible exact ih7 _ _ _ _ _ _ _ _ _ _ _ _ _)
   | (with_reducible exact LeO.refl _)
   | (with_reducible exact LeO.none _)
   | (with_reducible refine LeO.ite ?_ ?_)
   | (with_reducible refine LeO.bind ?_ (fun _ => ?_))
   | exact ih0 _ _ _ _ _ _ _
   | exact ih1 _ _ _ _ _ _ _ _ _
   | exact ih2 _ _ _ _ _ _ _ _
   | exact ih3 _ _ _ _ _ _ _ _ _ _ _ _
   | exact ih4 _ _ _ _ _ _
   | exact ih5 _ _ _ _ _ _ _ _ _
   | exact ih6 _ _ _ _ _ _ _
   | exact ih7 _ _ _ _ _ _ _ _ _ _ _ _ _
   | exact LeO.none _
   | refine LeO.ite ?_ ?_
   | refine LeO.bind ?_ (fun _ => ?_)
  ·intro y0 y1 y2 y3 y4 y5
   unfold fa_.l4
   repeat' first
   | (with_reducible exact ih0 _ _ _ _ _ _ _)
   | (with_reducible exact ih1 _ _ _ _ _ _ _ _ _)
   | (with_reducible exact ih2 _ _ _ _ _ _ _ _)
   | (with_reducible exact ih3 _ _ _ _ _ _ _ _ _ _ _ _)
   | (with_reducible exact ih4 _ _ _ _ _ _)
   | (with_reducible exact ih5 _ _ _ _ _ _ _ _ _)
   | (with_reducible exact ih6 _ _ _ _ _ _ _)
   | (with_reducible exact ih7 _ _ _ _ _ _ _ _ _ _ _ _ _)
   | (with_reducible exact LeO.refl _)
   | (with_reducible exact LeO.none _)
   | (with_reducible refine LeO.ite ?_ ?_)
   | (with_reducible refine LeO.bind ?_ (fun _ => ?_))
   | exact ih0 _ _ _ _ _ _ _
   | exact ih1 _ _ _ _ _ _ _ _ _
   | exact ih2 _ _ _ _ _ _ _ _
   | exact ih3 _ _ _ _ _ _ _ _ _ _ _ _
   | exact ih4 _ _ _ _ _ _
   | exact ih5 _ _ _ _ _ _ _ _ _
   | exact ih6 _ _ _ _ _ _ _
   | exact ih7 _ _ _ _ _ _ _ _ _ _ _ _ _
   | exact LeO.none _
   | refine LeO.ite ?_ ?_
   | refine LeO.bind ?_ (fun _ => ?_)
  ·intro y0 y1 y2 y3 y4 y5 y6 y7 y8
   unfold fa_.l5
   repeat' first
   | (with_reducible exact ih0 _ _ _ _ _ _ _)
   | (with_reducible exact ih1 _ _ _ _ _ _ _ _ _)
   | (with_reducible exact ih2 _ _ _ _ _ _ _ _)
   | (with_reducible exact ih3 _ _ _ _ _ _ _ _ _ _ _ _)
   | (with_reducible exact ih4 _ _ _ _ _ _)
   | (with_reducible exact ih5 _ _ _ _ _ _ _ _ _)
   | (with_reducible exact ih6 _ _ _ _ _ _ _)
   | (with_reducible exact ih7 _ _ _ _ _ _ _ _ _ _ _ _ _)
   | (with_reducible exact LeO.refl _)
   | (with_reducible exact LeO.none _)
   | (with_reducible refine LeO.ite ?_ ?_)
   | (with_reducible refine LeO.bind ?_ (fun _ => ?_))
   | exact ih0 _ _ _ _ _ _ _
   | exact ih1 _ _ _ _ _ _ _ _ _
   | exact ih2 _ _ _ _ _ _ _ _
   | exact ih3 _ _ _ _ _ _ _ _ _ _ _ _
   | exact ih4 _ _ _ _ _ _
   | exact ih5 _ _ _ _ _ _ _ _ _
   | exact ih6 _ _ _ _ _ _ _
   | exact ih7 _ _ _ _ _ _ _ _ _ _ _ _ _
   | exact LeO.none _
   | refine LeO.ite ?_ ?_
   | refine LeO.bind ?_ (fun _ => ?_)
  ·intro y0 y1 y2 y3 y4 y5 y6
   unfold fa_.l6
   repeat' first
   | (with_reducible exact ih0 _ _ _ _ _ _ _)
   | (with_reducible exact ih1 _ _ _ _ _ _ _ _ _)
   | (with_reducible exact ih2 _ _ _ _ _ _ _ _)
   | (with_reducible exact ih3 _ _ _ _ _ _ _ _ _ _ _ _)
   | (with_reducible exact ih4 _ _ _ _ _ _)
   | (with_reducible exact ih5 _ _ _ _ _ _ _ _ _)
   | (with_reducible exact ih6 _ _ _ _ _ _ _)
   | (with_reducible exact ih7 _ _ _ _ _ _ _ _ _ _ _ _ _)
   | (with_reducible exact LeO.refl _)
   | (with_reducible exact LeO.none _)
   | (with_reducible refine LeO.ite ?_ ?_)
   | (with_reducible refine LeO.bind ?_ (fun _ => ?_))
   | exact ih0 _ _ _ _ _ _ _
   | exact ih1 _ _ _ _ _ _ _ _ _
   | exact ih2 _ _ _ _ _ _ _ _
   | exact ih3 _ _ _ _ _ _ _ _ _ _ _ _
   | exact ih4 _ _ _ _ _ _
   | exact ih5 _ _ _ _ _ _ _ _ _
   | exact ih6 _ _ _ _ _ _ _
   | exact ih7 _ _ _ _ _ _ _ _ _ _ _ _ _
   | exact LeO.none _
   | refine LeO.ite ?_ ?_
   | refine LeO.bind ?_ (fun _ => ?_)
  ·intro y0 y1 y2 y3 y4 y5 y6 y7 y8 y9 y10 y11 y12
   unfold fa_.l7
   repeat' first
   | (with_reducible exact ih0 _ _ _ _ _ _ _)
   | (with_reducible exact ih1 _ _ _ _ _ _ _ _ _)
   | (with_reducible exact ih2 _ _ _ _ _ _ _ _)
   | (with_reducible exact ih3 _ _ _ _ _ _ _ _ _ _ _ _)
   | (with_reducible exact ih4 _ _ _ _ _ _)
   | (with_reducible exact ih5 _ _ _ _ _ _ _ _ _)
   | (with_reducible exact ih6 _ _ _ _ _ _ _)
   | (with_reducible exact ih7 _ _ _ _ _ _ _ _ _ _ _ _ _)
   | (with_reducible exact LeO.refl _)
   | (with_reducible exact LeO.none _)
   | (with_reducible refine LeO.ite ?_ ?_)
   | (with_reducible refine LeO.bind ?_ (fun _ => ?_))
   | exact ih0 _ _ _ _ _ _ _
   | exact ih1 _ _ _ _ _ _ _ _ _
   | exact ih2 _ _ _ _ _ _ _ _
   | exact ih3 _ _ _ _ _ _ _ _ _ _ _ _
   | exact ih4 _ _ _ _ _ _
   | exact ih5 _ _ _ _ _ _ _ _ _
   | exact ih6 _ _ _ _ _ _ _
   | exact ih7 _ _ _ _ _ _ _ _ _ _ _ _ _
   | exact LeO.none _
   | refine LeO.ite ?_ ?_
   | refine LeO.bind ?_ (fun _ => ?_)
theorem fa_.mono : ∀ a0 a1 a2 k, LeO (fa_.f k a0 a1 a2) (fa_.f (k + 1) a0 a1 a2) := by
 intro a0 a1 a2 k
 obtain ⟨ih0, ih1, ih2, ih3, ih4, ih5, ih6, ih7⟩ := fa_.td_ k
 unfold fa_.f
 repeat' first
   | (with_reducible exact ih0 _ _ _ _ _ _ _)
   | (with_reducible exact ih1 _ _ _ _ _ _ _ _ _)
   | (with_reducible exact ih2 _ _ _ _ _ _ _ _)
   | (with_reducible exact ih3 _ _ _ _ _ _ _ _ _ _ _ _)
   | (with_reducible exact ih4 _ _ _ _ _ _)
   | (with_reducible exact ih5 _ _ _ _ _ _ _ _ _)
   | (with_reducible exact ih6 _ _ _ _ _ _ _)
   | (with_reducible exact ih7 _ _ _ _ _ _ _ _ _ _ _ _ _)
   | (with_reducible exact LeO.refl _)
   | (with_reducible exact LeO.none _)
   | (with_reducible refine LeO.ite ?_ ?_)
   | (with_reducible refine LeO.bind ?_ (fun _ => ?_))
   | exact ih0 _ _ _ _ _ _ _
   | exact ih1 _ _ _ _ _ _ _ _ _
   | exact ih2 _ _ _ _ _ _ _ _
   | exact ih3 _ _ _ _ _ _ _ _ _ _ _ _
   | exact ih4 _ _ _ _ _ _
   | exact ih5 _ _ _ _ _ _ _ _ _
   | exact ih6 _ _ _ _ _ _ _
   | exact ih7 _ _ _ _ _ _ _ _ _ _ _ _ _
   | exact LeO.none _
   | refine LeO.ite ?_ ?_
   | refine LeO.bind ?_ (fun _ => ?_)
def fa_.T9 : Bool × List (List Nat × List Nat) := (true, [([], []), ([], []), ([], []), ([], []), ([2, 3], [2, 3]), ([4], [4]), ([], []), ([], []), ([7], [7]), ([6, 8], [6, 8]), ([9], [9]), ([], []), ([], []), ([11, 12], [11, 12]), ([10, 13, 13], [10, 13]), ([5, 14, 14], [5, 14]), ([0, 1, 0, 1, 2, 3, 4, 5, 6, 7, 8, 9, 10, 11, 12, 13, 14, 15], [0, 1]), ([16, 15, 15, 0, 1, 2, 3, 4, 5, 6, 7, 8, 9, 10, 11, 12, 13, 14, 15], [15, 16])])
def fa_.B9 : List Nat := [0, 0, 0, 0, 12, 28, 0, 0, 128, 448, 960, 0, 0, 6144, 16320, 32764, 65535, 131071]
theorem fa_.tab9 : rtab .any (opsOf Tryd.f49 9) = fa_.T9 := by kernel_rfl
theorem fa_.bits9 : jf_ fa_.T9.2 fa_.B9 = true := by kernel_rfl
def fa_.T19 : Bool × List (List Nat × List Nat) := (true, [([], []), ([], []), ([], []), ([], []), ([2, 3], [2, 3]), ([4], [4]), ([], []), ([], []), ([], []), ([8], [8]), ([7, 9], [7, 9]), ([], []), ([10, 11], [10, 11]), ([12], [12]), ([13], [13]), ([6, 14], [6, 14]), ([5, 15, 15], [5, 15]), ([0, 1, 0, 1, 2, 3, 4, 5, 6, 7, 8, 9, 10, 11, 12, 13, 14, 15, 16], [0, 1]), ([17, 16, 16, 0, 1, 2, 3, 4, 5, 6, 7, 8, 9, 10, 11, 12, 13, 14, 15, 16], [16, 17])])
def fa_.B19 : List Nat := [0, 0, 0, 0, 12, 28, 0, 0, 0, 256, 896, 0, 3968, 8064, 16256, 32704, 65532, 131071, 262143]
theorem fa_.tab19 : rtab .any (opsOf Tryd.f49 19) = fa_.T19 := by kernel_rfl
theorem fa_.bits19 : jf_ fa_.T19.2 fa_.B19 = true := by kernel_rfl
set_option maxHeartbeats 8000000 in
set_option maxRecDepth 100000 in
theorem fa_.calls (k : Nat) (A0 : Option Addr) (c0 : Nat) (l0 : List Int) (A1 : Option Addr) (c1 : Nat) (l1 : List Int) (a2 : Int) (r1 : List Int) (r2 : Bool) (w : World) (hr0 : Kd.C (Kd.int .i64) w A0 l0.length l0) (hc0 : l0.length ≤ c0) (hr1 : Kd.C (Kd.int .i64) w A1 l1.length l1) (hc1 : l1.length ≤ c1) (h : fa_.f k l0 l1 a2 = some (r1, r2)) :
  Calls Tryd.prog 49 #[.slice A0 l0.length c0, .slice A1 l1.length c1, .int .i64 a2] w fun e w' => ∃ v0_ : Value, e = .returned (.tuple #[v0_, .bool r2]) ∧ Kd.R (Kd.int .i64) 3 w' w.heap.size (fun _ => True) v0_ r1 ∧ Below w.heap.size w w' := by
 have HR0 := ba_.mk hr0
 have HC0 := ba_.mk hc0
 clear hr0 hc0
 have HR1 := ba_.mk hr1
 have HC1 := ba_.mk hc1
 clear hr1 hc1
 have HB := ba_.mk (Below.refl w.heap.size w)
 have H : (fa_.l0 k l0 l1 a2 (([1] : List Int)) l1 (l1.length : Int) 0) = some (r1, r2) := h
 clear h
 obtain ⟨y101, hy101⟩ : ∃ y_ : List Int, y_ = (([1] : List Int)) := ⟨_, rfl⟩
 replace H : (fa_.l0 k l0 l1 a2 y101 l1 (l1.length : Int) 0) = some (r1, r2) := by first | (rw [hy101]; with_reducible exact H) | (have H2_ := (Option.bind_some _ _).symm.trans H; rw [hy101]; with_reducible exact H2_) | (have H2_ := (Option.bind_some _ _).symm.trans H; with_reducible exact H2_) | with_reducible exact H | (rw [hy101]; exact H) | exact H
 have Ny101 := ba_.mk hy101
 clear hy101
 have H' := ba_.mk H
 clear H
 go_enter Tryd.func49, Tryd.ntmps49
 go_wp2_with (first | ((with_reducible refine hc_ (N := 29) rfl ?_); refine Kd.ai_ (Kd.int .i64) _ 83 ?hg (N := 29) ?hd (xs := ([1] : List Int)) (inner := [.int .i64 1]) (ok := fun _ => True) (okp := fun _ => True) ?hr ?hp (fun _ hk => hk) trivial (Below.refl _ _) (Nat.le_refl _) (by simp) ?_; (case hd => rfl); (case hg => rfl); (case hr => first | (go_simp; done) | (go_simp; rfl)); (case hp => exact (Reps.one (show Kd.M (Kd.int .i64) _ _ _ 1 [.int .i64 1] from rfl) (Reps.none _ _))); intro v102 w4 ho5 hb hg_ hnew_; clear hg_ hnew_; (first | rw [← Ny101.out] at ho5 | (simp only [Int.reduceToNat] at ho5; rw [← Ny101.out] at ho5)); have n0_ := ba_.mk (Kd.wc_ ho5 (wa_ (by repeat (first | (with_reducible first | exact HB.out | apply da_ | apply aa_ | apply ca_) | exact HB.out)))); have n1_ := ba_.mk (pa_ (by repeat (first | (with_reducible first | exact HB.out | apply da_ | apply aa_ | apply ca_) | exact HB.out)) hb); clear HB; have HO103 := n0_; have HB := n1_; clear n0_ n1_; clear hb ho5))
 go_loopg [8, 32] k (fun kq v8 v32 w' => ∃ (x8_1 : List Int) (x32_1 : Int), v32 = .int .i64 x32_1 ∧ ba_ (fa_.l0 kq l0 l1 a2 x8_1 l1 (l1.length : Int) x32_1 = some (r1, r2)) ∧ ba_ (kq ≤ k) ∧ ba_ (Kd.R (Kd.int .i64) 83 w' w.heap.size (fun _ => True) v8 x8_1) ∧ ba_ (Below w.heap.size w w'))
 case atStart => exact ⟨(y101), (0), (by first | rfl | (simp; done) | (simp [*]; done)), H', ⟨Nat.le_refl _⟩, ⟨by (with_reducible repeat (first | apply Kd.ta_ | apply Kd.ua_ | apply Kd.db_)); exact HO103.out⟩, ⟨by repeat (first | (with_reducible first | exact HB.out | apply da_ | apply aa_ | apply ca_) | exact HB.out)⟩⟩
 case round =>
  clear H'
  try clear c1
  try clear p2
  try clear c4
  obtain ⟨x8_1, x32_1, rfl, HA, HK1, HO_8, HB⟩ := hrel
  cases gk with
  | zero => exact absurd HA.out (by simp [fa_.l0])
  | succ k1 =>
   have H := HA.out
   clear HA
   simp only [fa_.l0] at H
   by_cases c6 : x32_1 < (l1.length : Int)
   ·rw [if_pos c6] at H
    have c6b0 : decide (x32_1 < (l1.length : Int)) = true := decide_eq_true c6
    clear c6
    by_cases c7 : 0 ≤ x32_1
    ·rw [if_pos c7] at H
     have c7b0 : decide (0 ≤ x32_1) = true := decide_eq_true c7
     clear c7
     by_cases c8 : x32_1 < (l1.length : Int)
     ·rw [if_pos c8] at H
      have c8b0 : decide (x32_1 < (l1.length : Int)) = true := decide_eq_true c8
      clear c8
      by_cases c9 : x8_1.length < 17592186044416
      ·rw [if_pos c9] at H
       have LMc9 := ba_.mk c9
       clear c9
       obtain ⟨y105, hy105⟩ : ∃ y_ : List Int, y_ = (x8_1 ++ [0]) := ⟨_, rfl⟩
       replace H : (fa_.l1 k1 l0 l1 a2 y105 (rd l1 x32_1) (wrap64 ((y105.length : Int) - 1)) l1 (l1.length : Int) x32_1) = some (r1, r2) := by first | (rw [hy105]; with_reducible exact H) | (have H2_ := (Option.bind_some _ _).symm.trans H; rw [hy105]; with_reducible exact H2_) | (have H2_ := (Option.bind_some _ _).symm.trans H; with_reducible exact H2_) | with_reducible exact H | (rw [hy105]; exact H) | exact H
       have Ny105 := ba_.mk hy105
       clear hy105
       have H' := ba_.mk H
       clear H
       have p104 : 0 ≤ (x32_1 : Int) := of_decide_eq_true (by first | (with_reducible assumption) | assumption)
       have q104 : x32_1 < (l1.length : Int) := of_decide_eq_true (by first | (with_reducible assumption) | assumption)
       obtain ⟨ad104, e104, hx104_0⟩ := Kd.id_ HR1.out x32_1 p104 q104
       cases e104
       replace hx104_0 := (HB.out.cell (World.block_lt_of_cell? w _ hx104_0)).trans hx104_0
       replace p104 := eq_true p104
       replace q104 := eq_true q104
       go_wp2_with (first | ((with_reducible refine pd_ (b := .append) (xs := #[.tmp 36, .tmp 37]) rfl ?_); at_builtin; refine Kd.af_ (Kd.int .i64) (w0 := w) w.heap.size rfl (.tmp 36) (.tmp 37) 86 83 (.int .i64 0) 8 rfl Tryd.underlying86 qh_ rfl (by decide) (by omega) u8 x8_1 0 [.int .i64 0] (fun _ => True) (fun _ => False) rfl rfl ?aP (fun _ hk => hk.elim) ?aF ?aO ?aB ?aS ?aL ?_; (case aP => exact rfl); (case aB => exact (by repeat (first | (with_reducible first | exact HB.out | apply da_ | apply aa_ | apply ca_) | exact HB.out))); (case aF => exact (fun _ _ => trivial)); (case aO => exact (by (with_reducible repeat (first | apply Kd.ta_ | apply Kd.ua_ | apply Kd.db_)); exact HO_8.out)); (case aS => exact (wa_ (by repeat (first | (with_reducible first | exact HB.out | apply da_ | apply aa_ | apply ca_) | exact HB.out)))); (case aL => have := LMc9.out; omega); intro v106 w10 ho hb hg hat; rw [← Ny105.out] at ho; have n0_ := ba_.mk (hb); have n1_ := ba_.mk (ho); clear HB; clear HO_8; have HB := n0_; have HO107 := n1_; clear n0_ n1_; clear ho hb hg hat; obtain ⟨Ao11, co11, eo11⟩ := Kd.nc_ HO107.out; subst eo11))
       go_loopg [11] k1 (fun kq v11 w' => ∃ (x8_2 : List Int) (x11_2 : Int), v11 = .int .i64 x11_2 ∧ ba_ (fa_.l1 kq l0 l1 a2 x8_2 (rd l1 x32_1) x11_2 l1 (l1.length : Int) x32_1 = some (r1, r2)) ∧ ba_ (kq ≤ k1) ∧ ba_ (Kd.R (Kd.int .i64) 83 w' w.heap.size (fun _ => True) (.slice Ao11 y105.length co11) x8_2) ∧ ba_ (Below w.heap.size w w'))
       case atStart => exact ⟨(y105), (wrap64 ((y105.length : Int) - 1)), (by first | rfl | (simp; done) | (simp [*]; done)), H', ⟨Nat.le_refl _⟩, ⟨by (with_reducible repeat (first | apply Kd.ta_ | apply Kd.ua_ | apply Kd.db_)); exact HO107.out⟩, ⟨by repeat (first | (with_reducible first | exact HB.out | apply da_ | apply aa_ | apply ca_) | exact HB.out)⟩⟩
       case round =>
        clear H'
        try clear c1
        try clear p1
        try clear q1
        try clear hx1
        try clear p2
        try clear c4
        try clear c6
        try clear c6b0
        try clear p6
        try clear c7
        try clear c7b0
        try clear c8
        try clear c8b0
        try clear c9
        try clear p10
        try clear q10
        try clear hx10
        try clear hx104_0
        try clear p104
        try clear p2
        try clear q104
        obtain ⟨x8_2, x11_2, rfl, HA, HK2, HO_8, HB⟩ := hrel
        have hl8_2 := (Kd.lb_ HO_8.out).1
        rw [hl8_2] at HO_8
        (try simp only [hl8_2])
        cases gk with
        | zero => exact absurd HA.out (by simp [fa_.l1])
        | succ k2 =>
         have H := HA.out
         clear HA
         simp only [fa_.l1] at H
         by_cases c12 : x11_2 > 0
         ·rw [if_pos c12] at H
          have c12b0 : decide (0 < x11_2) = true := decide_eq_true c12
          clear c12
          by_cases c13 : 0 ≤ x11_2
          ·rw [if_pos c13] at H
           have c13b0 : decide (0 ≤ x11_2) = true := decide_eq_true c13
           clear c13
           by_cases c14 : x11_2 < (x8_2.length : Int)
           ·rw [if_pos c14] at H
            have c14b0 : decide (x11_2 < (x8_2.length : Int)) = true := decide_eq_true c14
            clear c14
            obtain ⟨ji15, hji15⟩ : ∃ j_ : Int, (wrap64 (x11_2 - 1)) = j_ := ⟨_, rfl⟩
            replace H : (if 0 ≤ (ji15) then (if (ji15) < (x8_2.length : Int) then ((g_at.f l0 (rd l1 x32_1) 1).bind fun t110 => ((ie_.f (rd x8_2 (ji15)) t110).bind fun t111 => ((qe_.f (rd x8_2 x11_2) t111).bind fun t112 => (fa_.l1 k2 l0 l1 a2 (x8_2.set (x11_2 : Int).toNat t112) (rd l1 x32_1) ji15 l1 (l1.length : Int) x32_1)))) else (none)) else (none)) = some (r1, r2) := by first | (rw [hji15] at H; exact H) | (simp only [hji15] at H ⊢; exact H)
            have hji15w : (IntKind.i64.wrap (x11_2 - 1)) = ji15 := (fb_ _).trans hji15
            by_cases c16 : 0 ≤ (ji15)
            ·rw [if_pos c16] at H
             have c16b0 : decide (0 ≤ (ji15)) = true := decide_eq_true c16
             clear c16
             by_cases c17 : (ji15) < (x8_2.length : Int)
             ·rw [if_pos c17] at H
              have c17b0 : decide ((ji15) < (x8_2.length : Int)) = true := decide_eq_true c17
              clear c17
              replace H := Option.bind_eq_some_iff.mp H
              obtain ⟨t110, A180, H⟩ := H
              replace H : ((ie_.f (rd x8_2 (ji15)) t110).bind fun t111 => ((qe_.f (rd x8_2 x11_2) t111).bind fun t112 => (fa_.l1 k2 l0 l1 a2 (x8_2.set (x11_2 : Int).toNat t112) (rd l1 x32_1) ji15 l1 (l1.length : Int) x32_1))) = some (r1, r2) := H
              have A18 := ba_.mk A180
              clear A180
              replace H := Option.bind_eq_some_iff.mp H
              obtain ⟨t111, A190, H⟩ := H
              replace H : ((qe_.f (rd x8_2 x11_2) t111).bind fun t112 => (fa_.l1 k2 l0 l1 a2 (x8_2.set (x11_2 : Int).toNat t112) (rd l1 x32_1) ji15 l1 (l1.length : Int) x32_1)) = some (r1, r2) := H
              have A19 := ba_.mk A190
              clear A190
              replace H := Option.bind_eq_some_iff.mp H
              obtain ⟨t112, A200, H⟩ := H
              replace H : (fa_.l1 k2 l0 l1 a2 (x8_2.set (x11_2 : Int).toNat t112) (rd l1 x32_1) ji15 l1 (l1.length : Int) x32_1) = some (r1, r2) := H
              have A20 := ba_.mk A200
              clear A200
              obtain ⟨y113, hy113⟩ : ∃ y_ : List Int, y_ = (x8_2.set (x11_2 : Int).toNat t112) := ⟨_, rfl⟩
              replace H : (fa_.l1 k2 l0 l1 a2 y113 (rd l1 x32_1) ji15 l1 (l1.length : Int) x32_1) = some (r1, r2) := by first | (rw [hy113]; with_reducible exact H) | (have H2_ := (Option.bind_some _ _).symm.trans H; rw [hy113]; with_reducible exact H2_) | (have H2_ := (Option.bind_some _ _).symm.trans H; with_reducible exact H2_) | with_reducible exact H | (rw [hy113]; exact H) | exact H
              have Ny113 := ba_.mk hy113
              clear hy113
              have H' := ba_.mk H
              clear H
              try go_wp2
              have n0_ := ba_.mk (Kd.db_ HO_8.out)
              have n1_ := ba_.mk (ca_ HB.out)
              clear HO_8
              clear HB
              have HO_8 := n0_
              have HB := n1_
              clear n0_ n1_
              have p108 : 0 ≤ (x11_2 : Int) := of_decide_eq_true (by first | (with_reducible assumption) | assumption)
              have q108 : x11_2 < (x8_2.length : Int) := of_decide_eq_true (by first | (with_reducible assumption) | assumption)
              obtain ⟨ad108, e108, hx108_0⟩ := Kd.id_ (Kd.lb_ HO_8.out).2.2 x11_2 p108 q108
              cases e108
              replace p108 := eq_true p108
              replace q108 := eq_true q108
              have p109 : 0 ≤ ((ji15) : Int) := of_decide_eq_true (by first | (with_reducible assumption) | assumption)
              have q109 : (ji15) < (x8_2.length : Int) := of_decide_eq_true (by first | (with_reducible assumption) | assumption)
              obtain ⟨ad109, e109, hx109_0⟩ := Kd.id_ (Kd.lb_ HO_8.out).2.2 (ji15) p109 q109
              obtain rfl : ad108 = ad109 := (by injection e109)
              replace p109 := eq_true p109
              replace q109 := eq_true q109
              refine qf_ (n := 18) (S := fun w' => w'.cell? (ad108.add (x11_2).toNat) = some (.int .i64 (rd x8_2 x11_2)) ∧ w'.cell? (ad108.add ((ji15)).toNat) = some (.int .i64 (rd x8_2 (ji15)))) (ds := [17]) #[false, false, false, false, false, false, false, false, false, false, false, false, false, false, false, false, false, false] (by kernel_rfl) rfl rfl ⟨hx108_0, hx109_0⟩ (fun hHeld => ?_); refine xe_ fa_.tab9 fa_.bits9 (fun HT_ HW_ => ?_)
              generalize wr.drew = w22 at HO_8 HB hx108_0 hx109_0 hHeld ⊢
              refine tb_ (i := 0) (N := some 46) (v := ?_) (a' := ?_) #[true, false, false, false, false, false, false, false, false, false, false, false, false, false, false, false, false, false] rfl rfl (vb_ HT_.out (by kernel_rfl)) (fun _ _ _ h => h) (Or.inl ⟨by rfl, ?_⟩) ?_ ?_
              rotate_left
              ·intro w'
               go_simp
               with_reducible rfl
              rotate_left
              ·simp only [Act.put, List.setIfInBounds_toArray, List.set_cons_zero, List.set_cons_succ, fb_, hb_]
               rfl
              refine tb_ (i := 1) (N := some 47) (v := ?_) (a' := ?_) #[true, true, false, false, false, false, false, false, false, false, false, false, false, false, false, false, false, false] rfl rfl (vb_ HT_.out (by kernel_rfl)) (fun _ _ _ h => h) (Or.inl ⟨by rfl, ?_⟩) ?_ ?_
              rotate_left
              ·intro w'
               go_simp
               with_reducible rfl
              rotate_left
              ·simp only [Act.put, List.setIfInBounds_toArray, List.set_cons_zero, List.set_cons_succ, fb_, hb_]
               rfl
              refine tb_ (i := 2) (N := some 48) (v := ?_) (a' := ?_) #[true, true, true, false, false, false, false, false, false, false, false, false, false, false, false, false, false, false] rfl rfl (vb_ HT_.out (by kernel_rfl)) (fun _ _ _ h => h) (Or.inl ⟨by rfl, ?_⟩) ?_ ?_
              rotate_left
              ·intro w'
               go_simp
               with_reducible rfl
              rotate_left
              ·simp only [Act.put, List.setIfInBounds_toArray, List.set_cons_zero, List.set_cons_succ, fb_, hb_]
               rfl
              refine tb_ (i := 3) (N := some 49) (v := ?_) (a' := ?_) #[true, true, true, true, false, false, false, false, false, false, false, false, false, false, false, false, false, false] rfl rfl (vb_ HT_.out (by kernel_rfl)) (fun _ _ _ h => h) (Or.inl ⟨by rfl, ?_⟩) ?_ ?_
              rotate_left
              ·intro w'
               go_simp
               with_reducible rfl
              rotate_left
              ·simp only [Act.put, List.setIfInBounds_toArray, List.set_cons_zero, List.set_cons_succ, fb_, hb_]
               rfl
              refine tb_ (i := 4) (N := some 50) (v := ?_) (a' := ?_) #[true, true, true, true, true, false, false, false, false, false, false, false, false, false, false, false, false, false] rfl rfl (vb_ HT_.out (by kernel_rfl)) (fun _ _ _ h => h) (Or.inl ⟨by rfl, ?_⟩) ?_ ?_
              rotate_left
              ·intro w'
               go_simp
               with_reducible rfl
              rotate_left
              ·simp only [Act.put, List.setIfInBounds_toArray, List.set_cons_zero, List.set_cons_succ, fb_, hb_]
               rfl
              refine tb_ (i := 6) (N := some 52) (v := ?_) (a' := ?_) #[true, true, true, true, true, false, true, false, false, false, false, false, false, false, false, false, false, false] rfl rfl (vb_ HT_.out (by kernel_rfl)) (fun _ _ _ h => h) (Or.inl ⟨by rfl, ?_⟩) ?_ ?_
              rotate_left
              ·intro w'
               go_simp
               with_reducible rfl
              rotate_left
              ·simp only [Act.put, List.setIfInBounds_toArray, List.set_cons_zero, List.set_cons_succ, fb_, hb_]
               rfl
              refine tb_ (i := 7) (N := some 53) (v := ?_) (a' := ?_) #[true, true, true, true, true, false, true, true, false, false, false, false, false, false, false, false, false, false] rfl rfl (vb_ HT_.out (by kernel_rfl)) (fun _ _ _ h => h) (Or.inl ⟨by rfl, ?_⟩) ?_ ?_
              rotate_left
              ·intro w'
               go_simp
               with_reducible rfl
              rotate_left
              ·simp only [Act.put, List.setIfInBounds_toArray, List.set_cons_zero, List.set_cons_succ, fb_, hb_]
               rfl
              refine tb_ (i := 8) (N := some 54) (v := ?_) (a' := ?_) #[true, true, true, true, true, false, true, true, true, false, false, false, false, false, false, false, false, false] rfl rfl (vb_ HT_.out (by kernel_rfl)) (fun _ _ _ h => h) (Or.inl ⟨by rfl, ?_⟩) ?_ ?_
              rotate_left
              ·intro w'
               go_simp
               with_reducible rfl
              rotate_left
              ·simp only [Act.put, List.setIfInBounds_toArray, List.set_cons_zero, List.set_cons_succ, fb_, hb_]
               rfl
              refine tb_ (i := 9) (N := some 55) (v := ?_) (a' := ?_) #[true, true, true, true, true, false, true, true, true, true, false, false, false, false, false, false, false, false] rfl rfl (vb_ HT_.out (by kernel_rfl)) (fun _ _ _ h => h) (Or.inl ⟨by rfl, ?_⟩) ?_ ?_
              rotate_left
              ·intro w'
               go_simp
               with_reducible rfl
              rotate_left
              ·simp only [Act.put, List.setIfInBounds_toArray, List.set_cons_zero, List.set_cons_succ, fb_, hb_]
               rfl
              refine tb_ (i := 11) (N := some 57) (v := ?_) (a' := ?_) #[true, true, true, true, true, false, true, true, true, true, false, true, false, false, false, false, false, false] rfl rfl (vb_ HT_.out (by kernel_rfl)) (fun _ _ _ h => h) (Or.inl ⟨by rfl, ?_⟩) ?_ ?_
              rotate_left
              ·intro w'
               go_simp
               with_reducible rfl
              rotate_left
              ·simp only [Act.put, List.setIfInBounds_toArray, List.set_cons_zero, List.set_cons_succ, fb_, hb_]
               rfl
              refine tb_ (i := 12) (N := some 58) (v := ?_) (a' := ?_) #[true, true, true, true, true, false, true, true, true, true, false, true, true, false, false, false, false, false] rfl rfl (vb_ HT_.out (by kernel_rfl)) (fun _ _ _ h => h) (Or.inl ⟨by rfl, ?_⟩) ?_ ?_
              rotate_left
              ·intro w'
               go_simp
               with_reducible rfl
              rotate_left
              ·simp only [Act.put, List.setIfInBounds_toArray, List.set_cons_zero, List.set_cons_succ, fb_, hb_]
               rfl
              refine ee_ (i := 5) (N := some 51) (v := ?_) (a' := ?_) #[true, true, true, true, true, true, true, true, true, true, false, true, true, false, false, false, false, false] rfl rfl (ld_ HT_.out HW_.out (by kernel_rfl)) (fun _ _ _ h => h) (Or.inl ⟨by rfl, ?_⟩) hHeld ?_ ?_
              rotate_left
              ·rintro w' ⟨s0, s1⟩
               go_simp
               with_reducible rfl
              rotate_left
              ·simp only [Act.put, List.setIfInBounds_toArray, List.set_cons_zero, List.set_cons_succ, fb_, hb_]
               rfl
              refine ee_ (i := 10) (N := some 56) (v := ?_) (a' := ?_) #[true, true, true, true, true, true, true, true, true, true, true, true, true, false, false, false, false, false] rfl rfl (ld_ HT_.out HW_.out (by kernel_rfl)) (fun _ _ _ h => h) (Or.inl ⟨by rfl, ?_⟩) hHeld ?_ ?_
              rotate_left
              ·rintro w' ⟨s0, s1⟩
               go_simp
               with_reducible rfl
              rotate_left
              ·simp only [Act.put, List.setIfInBounds_toArray, List.set_cons_zero, List.set_cons_succ, fb_, hb_]
               rfl
              refine one_ (i := 13) (N := some 59) #[true, true, true, true, true, true, true, true, true, true, true, true, true, true, false, false, false, false] rfl rfl (ge_ HT_.out (by kernel_rfl)) (by decide) (fun K hK => ?_)
              refine vg_ Tryd.func54 (by kernel_rfl) rfl #[.slice A0 l0.length c0, .int .i64 (rd l1 x32_1), .int .i64 1] (by rfl) rfl rfl (by (try simp only [List.map_toArray, List.map_cons, List.map_nil]); first | done | rfl | (simp only [List.length_drop, List.length_take]; rfl)) ?_
              with_reducible refine (g_at.calls _ _ l0 (rd l1 x32_1) 1 t110 _ ?side1 ?side2 A18.out).mono ?_
              (case side1 => repeat (first | exact (Kd.rd_ HR0.out HB.out) | (with_reducible refine Kd.zc_ ?_ _) | (with_reducible refine Kd.ad_ ?_ _) | (with_reducible refine Kd.md_ ?_)))
              (case side2 => exact HC0.out)
              rintro e w' ⟨rfl, ⟨nd, rfl⟩⟩
              refine ⟨_, rfl, ?_⟩
              refine hK.out _ _ ⟨hHeld.1, hHeld.2⟩ (fun hHeld => ?_)
              clear hK K
              refine pf_ (a' := ?_) ?_ ?_
              rotate_left
              ·show Act.put _ (some 59) _ = _
               simp only [Act.put, List.setIfInBounds_toArray, List.set_cons_zero, List.set_cons_succ, fb_, hb_]
               rfl
              refine one_ (i := 14) (N := some 60) #[true, true, true, true, true, true, true, true, true, true, true, true, true, true, true, false, false, false] rfl rfl (ge_ HT_.out (by kernel_rfl)) (by decide) (fun K hK => ?_)
              refine vg_ Tryd.func66 (by kernel_rfl) rfl #[.int .i64 (rd x8_2 (ji15)), .int .i64 t110] (by rfl) rfl rfl (by (try simp only [List.map_toArray, List.map_cons, List.map_nil]); first | done | (simp only [hji15]; rfl) | rfl | (simp only [List.length_drop, List.length_take]; rfl)) ?_
              with_reducible refine (ie_.calls (rd x8_2 (ji15)) t110 t111 _ A19.out).mono ?_
              rintro e w' ⟨rfl, ⟨nd, rfl⟩⟩
              refine ⟨_, rfl, ?_⟩
              refine hK.out _ _ ⟨hHeld.1, hHeld.2⟩ (fun hHeld => ?_)
              clear hK K
              refine pf_ (a' := ?_) ?_ ?_
              rotate_left
              ·show Act.put _ (some 60) _ = _
               simp only [Act.put, List.setIfInBounds_toArray, List.set_cons_zero, List.set_cons_succ, fb_, hb_]
               rfl
              refine one_ (i := 15) (N := some 61) #[true, true, true, true, true, true, true, true, true, true, true, true, true, true, true, true, false, false] rfl rfl (ge_ HT_.out (by kernel_rfl)) (by decide) (fun K hK => ?_)
              refine vg_ Tryd.func65 (by kernel_rfl) rfl #[.int .i64 (rd x8_2 x11_2), .int .i64 t111] (by rfl) rfl rfl (by (try simp only [List.map_toArray, List.map_cons, List.map_nil]); first | done | rfl | (simp only [List.length_drop, List.length_take]; rfl)) ?_
              with_reducible refine (qe_.calls (rd x8_2 x11_2) t111 t112 _ A20.out).mono ?_
              rintro e w' ⟨rfl, ⟨nd, rfl⟩⟩
              refine ⟨_, rfl, ?_⟩
              have p21 : 0 ≤ (x11_2 : Int) := of_decide_eq_true (by first | (with_reducible assumption) | assumption)
              have q21 : (x11_2 : Int) < ((x8_2.length : Int) : Int) := of_decide_eq_true (by first | (with_reducible assumption) | assumption)
              obtain ⟨go21, co21, eo21, gb21, gl21, cl21, HG21⟩ := Kd.yf_ HO_8.out (by omega)
              (first | cases eo21 | (injection eo21 with ea_ en_ ec_; (first | subst ea_ | (injection ea_ with ea_; subst ea_)); subst ec_; clear en_))
              have GB21 := ba_.mk gb21
              have GG21 := ba_.mk HG21
              clear gb21 gl21 HG21
              (first | simp only [add_plain] at hx108_0 | skip)
              (first | simp only [add_plain] at hx109_0 | skip)
              obtain ⟨hx21_0, hf21_0⟩ := Kd.hf_ 0 HO_8.out (x11_2 : Int) p21 q21
              replace p21 := eq_true p21
              replace q21 := eq_true q21
              have HP23 := Kd.nh_ HO_8.out (x11_2 : Int) t112
              rw [← Ny113.out] at HP23
              have HQ23 := ba_.mk HP23
              clear HP23
              refine hK.out _ _ ⟨hHeld.1, hHeld.2⟩ (fun hHeld => ?_)
              clear hK K
              refine pf_ (a' := ?_) ?_ ?_
              rotate_left
              ·show Act.put _ (some 61) _ = _
               simp only [Act.put, List.setIfInBounds_toArray, List.set_cons_zero, List.set_cons_succ, fb_, hb_]
               rfl
              refine tb_ (i := 16) (N := some 62) (v := ?_) (a' := ?_) #[true, true, true, true, true, true, true, true, true, true, true, true, true, true, true, true, true, false] rfl rfl (vb_ HT_.out (by kernel_rfl)) (fun _ _ _ h => h) (Or.inl ⟨by rfl, ?_⟩) ?_ ?_
              rotate_left
              ·intro w'
               go_simp
               with_reducible rfl
              rotate_left
              ·simp only [Act.put, List.setIfInBounds_toArray, List.set_cons_zero, List.set_cons_succ, fb_, hb_]
               rfl
              refine wk_ (i := 17) (N := none) #[true, true, true, true, true, true, true, true, true, true, true, true, true, true, true, true, true, true] rfl rfl (ge_ HT_.out (by kernel_rfl)) (by decide) (fun K hK => ?_)
              refine zi_ (w1 := ?_) (by rfl) rfl ?_ ?_
              rotate_left
              ·go_simp
               rfl
              refine hK.out _ _ ?_
              clear hK K
              refine hh_ (og_ HT_.out (by kernel_rfl)) ?_
              try go_wp2
              (try simp only [← hl8_2])
              go_roundg k2
              case measure => have := HK1.out; have := HK2.out; omega
              case rel => exact ⟨(y113), (ji15), (by first | rfl | (simp; done) | (simp only [← hji15] <;> (first | rfl | simp)) | (simp [*]; done)), H', ⟨by have := HK1.out; have := HK2.out; omega⟩, ⟨by (try simp only [hl8_2]); (with_reducible repeat (first | apply Kd.ta_ | apply Kd.ua_ | apply Kd.db_)); exact HQ23.out⟩, ⟨by repeat (first | (with_reducible first | exact HB.out | apply da_ | apply aa_ | apply ca_ | refine ia_ ?_ GB21.out) | exact HB.out)⟩⟩
             ·rw [if_neg c17] at H
              exact absurd H (by simp)
            ·rw [if_neg c16] at H
             exact absurd H (by simp)
           ·rw [if_neg c14] at H
            exact absurd H (by simp)
          ·rw [if_neg c13] at H
           exact absurd H (by simp)
         ·rw [if_neg c12] at H
          have c12b0 : decide (0 < x11_2) = false := decide_eq_false c12
          clear c12
          have H' := ba_.mk H
          clear H
          go_wp2
          (try simp only [← hl8_2])
          go_roundg k2
          case measure => have := HK1.out; have := HK2.out; omega
          case rel => exact ⟨(x8_2), (wrap64 (x32_1 + 1)), (by first | rfl | (simp; done) | (simp [*]; done)), H', ⟨by have := HK1.out; have := HK2.out; omega⟩, ⟨by (try simp only [hl8_2]); (with_reducible repeat (first | apply Kd.ta_ | apply Kd.ua_ | apply Kd.db_)); exact HO_8.out⟩, ⟨by repeat (first | (with_reducible first | exact HB.out | apply da_ | apply aa_ | apply ca_) | exact HB.out)⟩⟩
      ·rw [if_neg c9] at H
       exact absurd H (by simp)
     ·rw [if_neg c8] at H
      exact absurd H (by simp)
    ·rw [if_neg c7] at H
     exact absurd H (by simp)
   ·rw [if_neg c6] at H
    have c6b0 : decide (x32_1 < (l1.length : Int)) = false := decide_eq_false c6
    clear c6
    replace H := Option.bind_eq_some_iff.mp H
    obtain ⟨t114, A240, H⟩ := H
    replace H : (if 0 ≤ (wrap64 (6 - (l1.length : Int))) then (if (wrap64 (6 - (l1.length : Int)) : Int).toNat ≤ 35184372088832 then ((some (List.replicate (wrap64 (6 - (l1.length : Int)) : Int).toNat 0 : List Int)).bind fun y117 => (fa_.l2 k1 l0 l1 a2 x8_1 t114 y117 (y117.length : Int) 0)) else (none)) else (none)) = some (r1, r2) := H
    have A24 := ba_.mk A240
    clear A240
    obtain ⟨ji25, hji25⟩ : ∃ j_ : Int, (wrap64 (6 - (l1.length : Int))) = j_ := ⟨_, rfl⟩
    replace H : (if 0 ≤ (ji25) then (if (ji25 : Int).toNat ≤ 35184372088832 then ((some (List.replicate (ji25 : Int).toNat 0 : List Int)).bind fun y117 => (fa_.l2 k1 l0 l1 a2 x8_1 t114 y117 (y117.length : Int) 0)) else (none)) else (none)) = some (r1, r2) := by first | (rw [hji25] at H; exact H) | (simp only [hji25] at H ⊢; exact H)
    (try rw [hji25] at A24)
    have hji25w : (IntKind.i64.wrap (6 - (l1.length : Int))) = ji25 := (fb_ _).trans hji25
    by_cases c26 : 0 ≤ (ji25)
    ·rw [if_pos c26] at H
     have c26b0 := eq_true c26
     have c26b1 : decide (0 ≤ (ji25)) = true := decide_eq_true c26
     clear c26
     by_cases c27 : (ji25 : Int).toNat ≤ 35184372088832
     ·rw [if_pos c27] at H
      have c27b0 := eq_true c27
      have c27b1 : decide ((ji25 : Int).toNat ≤ 35184372088832) = true := decide_eq_true c27
      clear c27
      obtain ⟨y117, hy117⟩ : ∃ y_ : List Int, y_ = (List.replicate (ji25 : Int).toNat 0) := ⟨_, rfl⟩
      replace H : (fa_.l2 k1 l0 l1 a2 x8_1 t114 y117 (y117.length : Int) 0) = some (r1, r2) := by first | (rw [hy117]; with_reducible exact H) | (have H2_ := (Option.bind_some _ _).symm.trans H; rw [hy117]; with_reducible exact H2_) | (have H2_ := (Option.bind_some _ _).symm.trans H; with_reducible exact H2_) | with_reducible exact H | (rw [hy117]; exact H) | exact H
      have Ny117 := ba_.mk hy117
      clear hy117
      have H' := ba_.mk H
      clear H
      go_wp2_with (first | ((with_reducible refine la_ (f := 53) rfl ?_); refine wb_ (some 65) rfl rfl Tryd.func53 (by kernel_rfl) rfl #[.slice A0 l0.length c0] rfl (by (try simp only [List.map_toArray, List.map_cons, List.map_nil]); first | done | rfl | (simp only [List.length_drop, List.length_take]; rfl)) ?_; (with_reducible refine (xi_.calls _ _ l0 t114 _ ?side1 ?side2 A24.out).mono ?_); (case side1 => repeat (first | exact (Kd.rd_ HR0.out HB.out) | (with_reducible refine Kd.zc_ ?_ _) | (with_reducible refine Kd.ad_ ?_ _) | (with_reducible refine Kd.md_ ?_))); (case side2 => exact HC0.out); rintro e w28 ⟨v115, hv9, rfl, hb⟩; refine ⟨_, rfl, ?_⟩; have HV9 := ba_.mk hv9; clear hv9; have HS9 := ba_.mk (tp_ HV9.out (rf_ A24.out)); have HT9 := ba_.mk (nr_ HV9.out (rf_ A24.out)); have HU9 := ba_.mk (mr_ HV9.out); have n0_ := ba_.mk (Kd.vc_ (by (with_reducible repeat (first | apply Kd.ta_ | apply Kd.ua_ | apply Kd.db_)); exact HO_8.out) hb); have n2_ := ba_.mk (pa_ (by repeat (first | (with_reducible first | exact HB.out | apply da_ | apply aa_ | apply ca_) | exact HB.out)) hb); clear HO_8; clear HB; have HO_8 := n0_; have HB := n2_; clear n0_ n2_; (try clear hb); (try clear hb2); (try clear hk); (try clear hi)) | (refine wpList_store_row rfl 84 _ _ rfl w28.heap.size v115 rfl rfl 84 _ (heap_alloc_new _ _) HS9.out HT9.out HU9.out ?_; rw [World.setRow_alloc_new]; have HO116 := ba_.mk (lr_ 84 w28 w.heap.size HV9.out (rf_ A24.out) (wa_ HB.out)); have n0_ := ba_.mk (Kd.ta_ HO_8.out (.cells v115 84)); have n1_ := ba_.mk (da_ HB.out (.cells v115 84)); clear HO_8; clear HB; have HO_8 := n0_; have HB := n1_; clear n0_ n1_; generalize w28.alloc (.cells v115 84) = w28b at HO_8 HB HO116 ⊢) | ((with_reducible refine hc_ (N := 69) rfl ?_); refine Kd.kk_ (Kd.int .i64) _ 83 rfl (N := 69) rfl 86 _ _ rfl ji25 rfl rfl Tryd.underlying86 (.int .i64 0) 8 qh_ rfl (by decide) (by omega) 0 (ok := fun _ => True) (okp := fun _ => True) rfl (fun _ hk => hk) trivial (of_decide_eq_true (by first | (with_reducible assumption) | assumption)) (Nat.le_trans (Nat.mul_le_mul_right _ (of_decide_eq_true (by first | (with_reducible assumption) | assumption) : ji25.toNat ≤ 35184372088832)) (by omega)) (Below.refl _ _) (Nat.le_refl _) ?_; intro v118 w29 ho30 hb hg_ hnew_; clear hg_ hnew_; (first | rw [← Ny117.out] at ho30 | (simp only [Int.reduceToNat] at ho30; rw [← Ny117.out] at ho30)); have n0_ := ba_.mk (Kd.gd_ (by (with_reducible repeat (first | apply Kd.ta_ | apply Kd.ua_ | apply Kd.db_)); exact HO_8.out) (Kd.be_ ho30) hb); have n1_ := ba_.mk (Kd.vc_ (by (with_reducible repeat (first | apply Kd.ta_ | apply Kd.ua_ | apply Kd.db_)); exact HO116.out) hb); have n2_ := ba_.mk (Kd.wc_ (Kd.yd_ ho30 (Kd.R_lt (by (with_reducible repeat (first | apply Kd.ta_ | apply Kd.ua_ | apply Kd.db_)); exact HO_8.out))) (wa_ (by repeat (first | (with_reducible first | exact HB.out | apply da_ | apply aa_ | apply ca_) | exact HB.out)))); have n3_ := ba_.mk (pa_ (by repeat (first | (with_reducible first | exact HB.out | apply da_ | apply aa_ | apply ca_) | exact HB.out)) hb); clear HO_8; clear HO116; clear HB; have HO_8 := n0_; have HO116 := n1_; have HO119 := n2_; have HB := n3_; clear n0_ n1_ n2_ n3_; clear hb ho30; obtain ⟨Ao31, co31, eo31⟩ := Kd.nc_ HO119.out; subst eo31))
      go_loopg [72] k1 (fun kq v72 w' => ∃ (x13_2 : List Int) (x72_2 : Int), v72 = .int .i64 x72_2 ∧ ba_ (fa_.l2 kq l0 l1 a2 x8_1 t114 x13_2 (y117.length : Int) x72_2 = some (r1, r2)) ∧ ba_ (kq ≤ k1) ∧ ba_ (Kd.R (Kd.int .i64) 83 w' w.heap.size (fun k_ => some k_ ≠ ((.slice Ao31 y117.length co31) : Value).ownBlock) u8 x8_1) ∧ ba_ (Kd.R (Kd.int .i64) 84 w' w.heap.size (fun _ => True) (.slice (some ⟨w28.heap.size, 0, none⟩) 6 6) t114) ∧ ba_ (Kd.R (Kd.int .i64) 83 w' w.heap.size (fun k_ => some k_ ≠ (u8 : Value).ownBlock) (.slice Ao31 y117.length co31) x13_2) ∧ ba_ (Below w.heap.size w w'))
      case atStart => exact ⟨(y117), (0), (by first | rfl | (simp; done) | (simp [*]; done)), H', ⟨Nat.le_refl _⟩, ⟨by (with_reducible repeat (first | apply Kd.ta_ | apply Kd.ua_ | apply Kd.db_)); exact Kd.uc_ HO_8.out (fun _ hk => hk.2)⟩, ⟨by (with_reducible repeat (first | apply Kd.ta_ | apply Kd.ua_ | apply Kd.db_)); exact HO116.out⟩, ⟨by (with_reducible repeat (first | apply Kd.ta_ | apply Kd.ua_ | apply Kd.db_)); exact Kd.uc_ HO119.out (fun _ hk => hk.2)⟩, ⟨by repeat (first | (with_reducible first | exact HB.out | apply da_ | apply aa_ | apply ca_) | exact HB.out)⟩⟩
      case round =>
       clear H'
       try clear c1
       try clear p1
       try clear q1
       try clear hx1
       try clear c2
       try clear p2
       try clear q2
       try clear hx2
       try clear c4
       try clear c5
       try clear c6
       try clear c6b0
       try clear p6
       try clear c7
       try clear c7b0
       try clear c8
       try clear c8b0
       try clear c9
       try clear p10
       try clear q10
       try clear hx10
       try clear c12
       try clear c12b0
       try clear c13
       try clear c13b0
       try clear c14
       try clear c14b0
       try clear c16
       try clear c16b0
       try clear c17
       try clear c17b0
       try clear p21
       try clear q21
       try clear hx21
       try clear hf21
       try clear c26
       try clear c26b0
       try clear c26b1
       try clear c27
       try clear c27b0
       try clear c27b1
       try clear hx104_0
       try clear hx108_0
       try clear hx109_0
       try clear hx21_0
       try clear p1
       try clear p10
       try clear p104
       try clear p108
       try clear p109
       try clear p2
       try clear p21
       try clear p6
       try clear q1
       try clear q10
       try clear q104
       try clear q108
       try clear q109
       try clear q21
       obtain ⟨x13_2, x72_2, rfl, HA, HK2, HO_8, HO_12, HO_13, HB⟩ := hrel
       have hl13_2 := (Kd.lb_ HO_13.out).1
       rw [hl13_2] at HO_13
       (try simp only [hl13_2])
       (try simp only [hl13_2] at HO_8)
       (try simp only [hl13_2] at HO_12)
       cases gk with
       | zero => exact absurd HA.out (by simp [fa_.l2])
       | succ k2 =>
        have H := HA.out
        clear HA
        simp only [fa_.l2] at H
        by_cases c32 : x72_2 < (y117.length : Int)
        ·rw [if_pos c32] at H
         have c32b0 : decide (x72_2 < (y117.length : Int)) = true := decide_eq_true c32
         (try simp only [hl13_2] at c32b0)
         clear c32
         have H' := ba_.mk H
         clear H
         obtain ⟨Ao33, co33, eo33⟩ := Kd.nc_ HO_8.out
         subst eo33
         go_wp2
         go_loopg [77] k2 (fun kq v77 w' => ∃ (x13_3 : List Int) (x77_3 : Int), v77 = .int .i64 x77_3 ∧ ba_ (fa_.l3 kq l0 l1 a2 x8_1 t114 x13_3 x72_2 (y117.length : Int) x72_2 x8_1 (x8_1.length : Int) x77_3 = some (r1, r2)) ∧ ba_ (kq ≤ k2) ∧ ba_ (Kd.R (Kd.int .i64) 83 w' w.heap.size (fun k_ => some k_ ≠ ((.slice Ao31 x13_2.length co31) : Value).ownBlock) (.slice Ao33 x8_1.length co33) x8_1) ∧ ba_ (Kd.R (Kd.int .i64) 84 w' w.heap.size (fun _ => True) (.slice (some ⟨w28.heap.size, 0, none⟩) 6 6) t114) ∧ ba_ (Kd.R (Kd.int .i64) 83 w' w.heap.size (fun k_ => some k_ ≠ ((.slice Ao33 x8_1.length co33) : Value).ownBlock ∧ some k_ ≠ ((.slice Ao33 x8_1.length co33) : Value).ownBlock) (.slice Ao31 x13_2.length co31) x13_3) ∧ ba_ (Kd.R (Kd.int .i64) 83 w' w.heap.size (fun k_ => some k_ ≠ ((.slice Ao31 x13_2.length co31) : Value).ownBlock) (.slice Ao33 x8_1.length co33) x8_1) ∧ ba_ (Below w.heap.size w w'))
         case atStart => exact ⟨(x13_2), (0), (by first | rfl | (simp; done) | (simp [*]; done)), H', ⟨Nat.le_refl _⟩, ⟨by (try simp only [hl13_2]); (with_reducible repeat (first | apply Kd.ta_ | apply Kd.ua_ | apply Kd.db_)); exact HO_8.out⟩, ⟨by (try simp only [hl13_2]); (with_reducible repeat (first | apply Kd.ta_ | apply Kd.ua_ | apply Kd.db_)); exact HO_12.out⟩, ⟨by (try simp only [hl13_2]); (with_reducible repeat (first | apply Kd.ta_ | apply Kd.ua_ | apply Kd.db_)); exact Kd.uc_ HO_13.out (fun _ hk => ⟨hk, hk⟩)⟩, ⟨by (try simp only [hl13_2]); (with_reducible repeat (first | apply Kd.ta_ | apply Kd.ua_ | apply Kd.db_)); exact HO_8.out⟩, ⟨by repeat (first | (with_reducible first | exact HB.out | apply da_ | apply aa_ | apply ca_) | exact HB.out)⟩⟩
         case round =>
          clear H'
          try clear c1
          try clear p1
          try clear q1
          try clear hx1
          try clear c2
          try clear p2
          try clear q2
          try clear hx2
          try clear c3
          try clear c4
          try clear c5
          try clear c6
          try clear c6b0
          try clear p6
          try clear c7
          try clear c7b0
          try clear c8
          try clear c8b0
          try clear c9
          try clear p10
          try clear q10
          try clear hx10
          try clear c12
          try clear c12b0
          try clear c13
          try clear c13b0
          try clear c14
          try clear c14b0
          try clear c16
          try clear c16b0
          try clear c17
          try clear c17b0
          try clear p21
          try clear q21
          try clear hx21
          try clear hf21
          try clear c26
          try clear c26b0
          try clear c26b1
          try clear c27
          try clear c27b0
          try clear c27b1
          try clear c32
          try clear c32b0
          try clear hx104_0
          try clear hx108_0
          try clear hx109_0
          try clear hx21_0
          try clear p1
          try clear p10
          try clear p104
          try clear p108
          try clear p109
          try clear p2
          try clear p21
          try clear p6
          try clear q1
          try clear q10
          try clear q104
          try clear q108
          try clear q109
          try clear q2
          try clear q21
          obtain ⟨x13_3, x77_3, rfl, HA, HK3, HO_8, HO_12, HO_13, HO_75, HB⟩ := hrel
          have hl13_3 := (Kd.lb_ HO_13.out).1
          rw [hl13_3] at HO_13
          (try simp only [hl13_3])
          (try simp only [hl13_3] at HO_8)
          (try simp only [hl13_3] at HO_12)
          (try simp only [hl13_3] at HO_75)
          cases gk with
          | zero => exact absurd HA.out (by simp [fa_.l3])
          | succ k3 =>
           have H := HA.out
           clear HA
           simp only [fa_.l3] at H
           by_cases c34 : x77_3 < (x8_1.length : Int)
           ·rw [if_pos c34] at H
            have c34b0 : decide (x77_3 < (x8_1.length : Int)) = true := decide_eq_true c34
            clear c34
            by_cases c35 : 0 ≤ x77_3
            ·rw [if_pos c35] at H
             have c35b0 : decide (0 ≤ x77_3) = true := decide_eq_true c35
             clear c35
             by_cases c36 : x77_3 < (x8_1.length : Int)
             ·rw [if_pos c36] at H
              have c36b0 : decide (x77_3 < (x8_1.length : Int)) = true := decide_eq_true c36
              clear c36
              by_cases c37 : 0 ≤ x72_2
              ·rw [if_pos c37] at H
               have c37b0 : decide (0 ≤ x72_2) = true := decide_eq_true c37
               clear c37
               by_cases c38 : x72_2 < (x13_3.length : Int)
               ·rw [if_pos c38] at H
                have c38b0 : decide (x72_2 < (x13_3.length : Int)) = true := decide_eq_true c38
                clear c38
                obtain ⟨ji39, hji39⟩ : ∃ j_ : Int, (wrap64 ((wrap64 (x72_2 + (l1.length : Int))) - x77_3)) = j_ := ⟨_, rfl⟩
                replace H : (if 0 ≤ (ji39) then (if (ji39) < (t114.length : Int) then ((ie_.f (rd x8_1 x77_3) (rd t114 (ji39))).bind fun t123 => ((qe_.f (rd x13_3 x72_2) t123).bind fun t124 => (fa_.l3 k3 l0 l1 a2 x8_1 t114 (x13_3.set (x72_2 : Int).toNat t124) x72_2 (y117.length : Int) x72_2 x8_1 (x8_1.length : Int) (wrap64 (x77_3 + 1))))) else (none)) else (none)) = some (r1, r2) := by first | (rw [hji39] at H; exact H) | (simp only [hji39] at H ⊢; exact H)
                have hji39w : (IntKind.i64.wrap ((wrap64 (x72_2 + (l1.length : Int))) - x77_3)) = ji39 := (fb_ _).trans hji39
                by_cases c40 : 0 ≤ (ji39)
                ·rw [if_pos c40] at H
                 have c40b0 : decide (0 ≤ (ji39)) = true := decide_eq_true c40
                 clear c40
                 by_cases c41 : (ji39) < (t114.length : Int)
                 ·rw [if_pos c41] at H
                  have c41b0 : decide ((ji39) < (t114.length : Int)) = true := decide_eq_true c41
                  clear c41
                  replace H := Option.bind_eq_some_iff.mp H
                  obtain ⟨t123, A420, H⟩ := H
                  replace H : ((qe_.f (rd x13_3 x72_2) t123).bind fun t124 => (fa_.l3 k3 l0 l1 a2 x8_1 t114 (x13_3.set (x72_2 : Int).toNat t124) x72_2 (y117.length : Int) x72_2 x8_1 (x8_1.length : Int) (wrap64 (x77_3 + 1)))) = some (r1, r2) := H
                  have A42 := ba_.mk A420
                  clear A420
                  replace H := Option.bind_eq_some_iff.mp H
                  obtain ⟨t124, A430, H⟩ := H
                  replace H : (fa_.l3 k3 l0 l1 a2 x8_1 t114 (x13_3.set (x72_2 : Int).toNat t124) x72_2 (y117.length : Int) x72_2 x8_1 (x8_1.length : Int) (wrap64 (x77_3 + 1))) = some (r1, r2) := H
                  have A43 := ba_.mk A430
                  clear A430
                  obtain ⟨y125, hy125⟩ : ∃ y_ : List Int, y_ = (x13_3.set (x72_2 : Int).toNat t124) := ⟨_, rfl⟩
                  replace H : (fa_.l3 k3 l0 l1 a2 x8_1 t114 y125 x72_2 (y117.length : Int) x72_2 x8_1 (x8_1.length : Int) (wrap64 (x77_3 + 1))) = some (r1, r2) := by first | (rw [hy125]; with_reducible exact H) | (have H2_ := (Option.bind_some _ _).symm.trans H; rw [hy125]; with_reducible exact H2_) | (have H2_ := (Option.bind_some _ _).symm.trans H; with_reducible exact H2_) | with_reducible exact H | (rw [hy125]; exact H) | exact H
                  have Ny125 := ba_.mk hy125
                  clear hy125
                  have H' := ba_.mk H
                  clear H
                  have p120 : 0 ≤ (x77_3 : Int) := of_decide_eq_true (by first | (with_reducible assumption) | assumption)
                  have q120 : x77_3 < (x8_1.length : Int) := of_decide_eq_true (by first | (with_reducible assumption) | assumption)
                  obtain ⟨ad120, e120, hx120_0⟩ := Kd.id_ (Kd.lb_ HO_75.out).2.2 x77_3 p120 q120
                  cases e120
                  replace p120 := eq_true p120
                  replace q120 := eq_true q120
                  try go_wp2
                  have n0_ := ba_.mk (Kd.db_ HO_8.out)
                  have n1_ := ba_.mk (Kd.db_ HO_12.out)
                  have n2_ := ba_.mk (Kd.db_ HO_13.out)
                  have n3_ := ba_.mk (Kd.db_ HO_75.out)
                  have n4_ := ba_.mk (ca_ HB.out)
                  clear HO_8
                  clear HO_12
                  clear HO_13
                  clear HO_75
                  clear HB
                  have HO_8 := n0_
                  have HO_12 := n1_
                  have HO_13 := n2_
                  have HO_75 := n3_
                  have HB := n4_
                  clear n0_ n1_ n2_ n3_ n4_
                  have p121 : 0 ≤ (x72_2 : Int) := of_decide_eq_true (by first | (with_reducible assumption) | assumption)
                  have q121 : x72_2 < (x13_3.length : Int) := of_decide_eq_true (by first | (with_reducible assumption) | assumption)
                  obtain ⟨ad121, e121, hx121_0⟩ := Kd.id_ (Kd.lb_ HO_13.out).2.2 x72_2 p121 q121
                  cases e121
                  replace p121 := eq_true p121
                  replace q121 := eq_true q121
                  obtain ⟨Ao46, co46, eo46⟩ := Kd.nc_ HO_12.out
                  (first | subst eo46 | (injection eo46 with f1_ f2_ f3_; have f4_ := f1_.symm; have f5_ := f3_.symm; clear f1_ f2_ f3_; subst f4_; subst f5_))
                  have p122 : 0 ≤ ((ji39) : Int) := of_decide_eq_true (by first | (with_reducible assumption) | assumption)
                  have q122 : (ji39) < (t114.length : Int) := of_decide_eq_true (by first | (with_reducible assumption) | assumption)
                  obtain ⟨ad122, e122, hx122_0⟩ := Kd.id_ (Kd.lb_ HO_12.out).2.2 (ji39) p122 q122
                  cases e122
                  simp only [add_plain] at hx122_0
                  have q6_ : (ji39 < 6) = True := eq_true (by have h6_ := rf_ A24.out; omega)
                  replace p122 := eq_true p122
                  replace q122 := eq_true q122
                  refine qf_ (n := 19) (S := fun w' => w'.cell? (ad121.add (x72_2).toNat) = some (.int .i64 (rd x13_3 x72_2)) ∧ w'.cell? ⟨w28.heap.size, (ji39).toNat, none⟩ = some (.int .i64 (rd t114 (ji39)))) (ds := [18]) #[false, false, false, false, false, false, false, false, false, false, false, false, false, false, false, false, false, false, false] (by kernel_rfl) rfl rfl ⟨hx121_0, hx122_0⟩ (fun hHeld => ?_); refine xe_ fa_.tab19 fa_.bits19 (fun HT_ HW_ => ?_)
                  generalize wr.drew = w45 at HO_8 HO_12 HO_13 HO_75 HB hx121_0 hx122_0 hHeld ⊢
                  refine tb_ (i := 0) (N := some 82) (v := ?_) (a' := ?_) #[true, false, false, false, false, false, false, false, false, false, false, false, false, false, false, false, false, false, false] rfl rfl (vb_ HT_.out (by kernel_rfl)) (fun _ _ _ h => h) (Or.inl ⟨by rfl, ?_⟩) ?_ ?_
                  rotate_left
                  ·intro w'
                   go_simp
                   with_reducible rfl
                  rotate_left
                  ·simp only [Act.put, List.setIfInBounds_toArray, List.set_cons_zero, List.set_cons_succ, fb_, hb_]
                   rfl
                  refine tb_ (i := 1) (N := some 83) (v := ?_) (a' := ?_) #[true, true, false, false, false, false, false, false, false, false, false, false, false, false, false, false, false, false, false] rfl rfl (vb_ HT_.out (by kernel_rfl)) (fun _ _ _ h => h) (Or.inl ⟨by rfl, ?_⟩) ?_ ?_
                  rotate_left
                  ·intro w'
                   go_simp
                   with_reducible rfl
                  rotate_left
                  ·simp only [Act.put, List.setIfInBounds_toArray, List.set_cons_zero, List.set_cons_succ, fb_, hb_]
                   rfl
                  refine tb_ (i := 2) (N := some 84) (v := ?_) (a' := ?_) #[true, true, true, false, false, false, false, false, false, false, false, false, false, false, false, false, false, false, false] rfl rfl (vb_ HT_.out (by kernel_rfl)) (fun _ _ _ h => h) (Or.inl ⟨by rfl, ?_⟩) ?_ ?_
                  rotate_left
                  ·intro w'
                   go_simp
                   with_reducible rfl
                  rotate_left
                  ·simp only [Act.put, List.setIfInBounds_toArray, List.set_cons_zero, List.set_cons_succ, fb_, hb_]
                   rfl
                  refine tb_ (i := 3) (N := some 85) (v := ?_) (a' := ?_) #[true, true, true, true, false, false, false, false, false, false, false, false, false, false, false, false, false, false, false] rfl rfl (vb_ HT_.out (by kernel_rfl)) (fun _ _ _ h => h) (Or.inl ⟨by rfl, ?_⟩) ?_ ?_
                  rotate_left
                  ·intro w'
                   go_simp
                   with_reducible rfl
                  rotate_left
                  ·simp only [Act.put, List.setIfInBounds_toArray, List.set_cons_zero, List.set_cons_succ, fb_, hb_]
                   rfl
                  refine tb_ (i := 4) (N := some 86) (v := ?_) (a' := ?_) #[true, true, true, true, true, false, false, false, false, false, false, false, false, false, false, false, false, false, false] rfl rfl (vb_ HT_.out (by kernel_rfl)) (fun _ _ _ h => h) (Or.inl ⟨by rfl, ?_⟩) ?_ ?_
                  rotate_left
                  ·intro w'
                   go_simp
                   with_reducible rfl
                  rotate_left
                  ·simp only [Act.put, List.setIfInBounds_toArray, List.set_cons_zero, List.set_cons_succ, fb_, hb_]
                   rfl
                  refine tb_ (i := 6) (N := some 88) (v := ?_) (a' := ?_) #[true, true, true, true, true, false, true, false, false, false, false, false, false, false, false, false, false, false, false] rfl rfl (vb_ HT_.out (by kernel_rfl)) (fun _ _ _ h => h) (Or.inl ⟨by rfl, ?_⟩) ?_ ?_
                  rotate_left
                  ·intro w'
                   go_simp
                   with_reducible rfl
                  rotate_left
                  ·simp only [Act.put, List.setIfInBounds_toArray, List.set_cons_zero, List.set_cons_succ, fb_, hb_]
                   rfl
                  refine tb_ (i := 7) (N := some 89) (v := ?_) (a' := ?_) #[true, true, true, true, true, false, true, true, false, false, false, false, false, false, false, false, false, false, false] rfl rfl (vb_ HT_.out (by kernel_rfl)) (fun _ _ _ h => h) (Or.inl ⟨by rfl, ?_⟩) ?_ ?_
                  rotate_left
                  ·intro w'
                   go_simp
                   with_reducible rfl
                  rotate_left
                  ·simp only [Act.put, List.setIfInBounds_toArray, List.set_cons_zero, List.set_cons_succ, fb_, hb_]
                   rfl
                  refine tb_ (i := 8) (N := some 90) (v := ?_) (a' := ?_) #[true, true, true, true, true, false, true, true, true, false, false, false, false, false, false, false, false, false, false] rfl rfl (vb_ HT_.out (by kernel_rfl)) (fun _ _ _ h => h) (Or.inl ⟨by rfl, ?_⟩) ?_ ?_
                  rotate_left
                  ·intro w'
                   go_simp
                   with_reducible rfl
                  rotate_left
                  ·simp only [Act.put, List.setIfInBounds_toArray, List.set_cons_zero, List.set_cons_succ, fb_, hb_]
                   rfl
                  refine tb_ (i := 9) (N := some 91) (v := ?_) (a' := ?_) #[true, true, true, true, true, false, true, true, true, true, false, false, false, false, false, false, false, false, false] rfl rfl (vb_ HT_.out (by kernel_rfl)) (fun _ _ _ h => h) (Or.inl ⟨by rfl, ?_⟩) ?_ ?_
                  rotate_left
                  ·intro w'
                   go_simp
                   with_reducible rfl
                  rotate_left
                  ·simp only [Act.put, List.setIfInBounds_toArray, List.set_cons_zero, List.set_cons_succ, fb_, hb_]
                   rfl
                  refine tb_ (i := 10) (N := some 92) (v := ?_) (a' := ?_) #[true, true, true, true, true, false, true, true, true, true, true, false, false, false, false, false, false, false, false] rfl rfl (vb_ HT_.out (by kernel_rfl)) (fun _ _ _ h => h) (Or.inl ⟨by rfl, ?_⟩) ?_ ?_
                  rotate_left
                  ·intro w'
                   go_simp
                   with_reducible rfl
                  rotate_left
                  ·simp only [Act.put, List.setIfInBounds_toArray, List.set_cons_zero, List.set_cons_succ, fb_, hb_]
                   rfl
                  refine tb_ (i := 11) (N := some 93) (v := ?_) (a' := ?_) #[true, true, true, true, true, false, true, true, true, true, true, true, false, false, false, false, false, false, false] rfl rfl (vb_ HT_.out (by kernel_rfl)) (fun _ _ _ h => h) (Or.inl ⟨by rfl, ?_⟩) ?_ ?_
                  rotate_left
                  ·intro w'
                   go_simp
                   with_reducible rfl
                  rotate_left
                  ·simp only [Act.put, List.setIfInBounds_toArray, List.set_cons_zero, List.set_cons_succ, fb_, hb_]
                   rfl
                  refine tb_ (i := 12) (N := some 94) (v := ?_) (a' := ?_) #[true, true, true, true, true, false, true, true, true, true, true, true, true, false, false, false, false, false, false] rfl rfl (vb_ HT_.out (by kernel_rfl)) (fun _ _ _ h => h) (Or.inl ⟨by rfl, ?_⟩) ?_ ?_
                  rotate_left
                  ·intro w'
                   go_simp
                   with_reducible rfl
                  rotate_left
                  ·simp only [Act.put, List.setIfInBounds_toArray, List.set_cons_zero, List.set_cons_succ, fb_, hb_]
                   rfl
                  refine tb_ (i := 13) (N := some 95) (v := ?_) (a' := ?_) #[true, true, true, true, true, false, true, true, true, true, true, true, true, true, false, false, false, false, false] rfl rfl (vb_ HT_.out (by kernel_rfl)) (fun _ _ _ h => h) (Or.inl ⟨by rfl, ?_⟩) ?_ ?_
                  rotate_left
                  ·intro w'
                   go_simp
                   with_reducible rfl
                  rotate_left
                  ·simp only [Act.put, List.setIfInBounds_toArray, List.set_cons_zero, List.set_cons_succ, fb_, hb_]
                   rfl
                  refine ee_ (i := 5) (N := some 87) (v := ?_) (a' := ?_) #[true, true, true, true, true, true, true, true, true, true, true, true, true, true, false, false, false, false, false] rfl rfl (ld_ HT_.out HW_.out (by kernel_rfl)) (fun _ _ _ h => h) (Or.inl ⟨by rfl, ?_⟩) hHeld ?_ ?_
                  rotate_left
                  ·rintro w' ⟨s0, s1⟩
                   go_simp
                   with_reducible rfl
                  rotate_left
                  ·simp only [Act.put, List.setIfInBounds_toArray, List.set_cons_zero, List.set_cons_succ, fb_, hb_]
                   rfl
                  refine ee_ (i := 14) (N := some 96) (v := ?_) (a' := ?_) #[true, true, true, true, true, true, true, true, true, true, true, true, true, true, true, false, false, false, false] rfl rfl (ld_ HT_.out HW_.out (by kernel_rfl)) (fun _ _ _ h => h) (Or.inl ⟨by rfl, ?_⟩) hHeld ?_ ?_
                  rotate_left
                  ·rintro w' ⟨s0, s1⟩
                   go_simp
                   with_reducible rfl
                  rotate_left
                  ·simp only [Act.put, List.setIfInBounds_toArray, List.set_cons_zero, List.set_cons_succ, fb_, hb_]
                   rfl
                  refine one_ (i := 15) (N := some 97) #[true, true, true, true, true, true, true, true, true, true, true, true, true, true, true, true, false, false, false] rfl rfl (ge_ HT_.out (by kernel_rfl)) (by decide) (fun K hK => ?_)
                  refine vg_ Tryd.func66 (by kernel_rfl) rfl #[.int .i64 (rd x8_1 x77_3), .int .i64 (rd t114 (ji39))] (by rfl) rfl rfl (by (try simp only [List.map_toArray, List.map_cons, List.map_nil]); first | done | (simp only [hji39]; rfl) | rfl | (simp only [List.length_drop, List.length_take]; rfl)) ?_
                  with_reducible refine (ie_.calls (rd x8_1 x77_3) (rd t114 (ji39)) t123 _ A42.out).mono ?_
                  rintro e w' ⟨rfl, ⟨nd, rfl⟩⟩
                  refine ⟨_, rfl, ?_⟩
                  refine hK.out _ _ ⟨hHeld.1, hHeld.2⟩ (fun hHeld => ?_)
                  clear hK K
                  refine pf_ (a' := ?_) ?_ ?_
                  rotate_left
                  ·show Act.put _ (some 97) _ = _
                   simp only [Act.put, List.setIfInBounds_toArray, List.set_cons_zero, List.set_cons_succ, fb_, hb_]
                   rfl
                  refine one_ (i := 16) (N := some 98) #[true, true, true, true, true, true, true, true, true, true, true, true, true, true, true, true, true, false, false] rfl rfl (ge_ HT_.out (by kernel_rfl)) (by decide) (fun K hK => ?_)
                  refine vg_ Tryd.func65 (by kernel_rfl) rfl #[.int .i64 (rd x13_3 x72_2), .int .i64 t123] (by rfl) rfl rfl (by (try simp only [List.map_toArray, List.map_cons, List.map_nil]); first | done | rfl | (simp only [List.length_drop, List.length_take]; rfl)) ?_
                  with_reducible refine (qe_.calls (rd x13_3 x72_2) t123 t124 _ A43.out).mono ?_
                  rintro e w' ⟨rfl, ⟨nd, rfl⟩⟩
                  refine ⟨_, rfl, ?_⟩
                  have p44 : 0 ≤ (x72_2 : Int) := of_decide_eq_true (by first | (with_reducible assumption) | assumption)
                  have q44 : (x72_2 : Int) < ((x13_3.length : Int) : Int) := of_decide_eq_true (by first | (with_reducible assumption) | assumption)
                  obtain ⟨go44, co44, eo44, gb44, gl44, cl44, HG44⟩ := Kd.yf_ HO_13.out (by omega)
                  (first | cases eo44 | (injection eo44 with ea_ en_ ec_; (first | subst ea_ | (injection ea_ with ea_; subst ea_)); subst ec_; clear en_))
                  have GB44 := ba_.mk gb44
                  have GG44 := ba_.mk HG44
                  clear gb44 gl44 HG44
                  (first | simp only [add_plain] at hx121_0 | skip)
                  obtain ⟨hx44_0, hf44_0⟩ := Kd.hf_ 0 HO_13.out (x72_2 : Int) p44 q44
                  replace p44 := eq_true p44
                  replace q44 := eq_true q44
                  have HP47 := Kd.nh_ HO_13.out (x72_2 : Int) t124
                  rw [← Ny125.out] at HP47
                  have HQ47 := ba_.mk HP47
                  clear HP47
                  refine hK.out _ _ ⟨hHeld.1, hHeld.2⟩ (fun hHeld => ?_)
                  clear hK K
                  refine pf_ (a' := ?_) ?_ ?_
                  rotate_left
                  ·show Act.put _ (some 98) _ = _
                   simp only [Act.put, List.setIfInBounds_toArray, List.set_cons_zero, List.set_cons_succ, fb_, hb_]
                   rfl
                  refine tb_ (i := 17) (N := some 99) (v := ?_) (a' := ?_) #[true, true, true, true, true, true, true, true, true, true, true, true, true, true, true, true, true, true, false] rfl rfl (vb_ HT_.out (by kernel_rfl)) (fun _ _ _ h => h) (Or.inl ⟨by rfl, ?_⟩) ?_ ?_
                  rotate_left
                  ·intro w'
                   go_simp
                   with_reducible rfl
                  rotate_left
                  ·simp only [Act.put, List.setIfInBounds_toArray, List.set_cons_zero, List.set_cons_succ, fb_, hb_]
                   rfl
                  refine wk_ (i := 18) (N := none) #[true, true, true, true, true, true, true, true, true, true, true, true, true, true, true, true, true, true, true] rfl rfl (ge_ HT_.out (by kernel_rfl)) (by decide) (fun K hK => ?_)
                  refine zi_ (w1 := ?_) (by rfl) rfl ?_ ?_
                  rotate_left
                  ·go_simp
                   rfl
                  refine hK.out _ _ ?_
                  clear hK K
                  refine hh_ (og_ HT_.out (by kernel_rfl)) ?_
                  try go_wp2
                  (try simp only [← hl13_3])
                  go_roundg k3
                  case measure => have := HK1.out; have := HK2.out; have := HK3.out; omega
                  case rel => exact ⟨(y125), (wrap64 (x77_3 + 1)), (by first | rfl | (simp; done) | (simp [*]; done)), H', ⟨by have := HK1.out; have := HK2.out; have := HK3.out; omega⟩, ⟨by (try simp only [hl13_2]); (try simp only [hl13_3]); (with_reducible repeat (first | apply Kd.ta_ | apply Kd.ua_ | apply Kd.db_)); exact Kd.uc_ (Kd.te_ (p := ⟨go44, (x72_2 : Int).toNat, none⟩) (Kd.uc_ HO_8.out (fun k_ hk => (⟨hk, fun e_ => hk (by rw [e_]; rfl)⟩ : _ ∧ k_ ≠ go44))) (fun _ hk => hk.2) (.int .i64 t124)) (fun _ hk => hk.1)⟩, ⟨by (try simp only [hl13_2]); (try simp only [hl13_3]); (with_reducible repeat (first | apply Kd.ta_ | apply Kd.ua_ | apply Kd.db_)); exact Kd.uc_ (Kd.te_ (p := ⟨go44, (x72_2 : Int).toNat, none⟩) (Kd.mg_ HO_12.out GG44.out (by decide)) (fun _ hk => hk.2) (.int .i64 t124)) (fun _ hk => trivial)⟩, ⟨by (try simp only [hl13_2]); (try simp only [hl13_3]); (with_reducible repeat (first | apply Kd.ta_ | apply Kd.ua_ | apply Kd.db_)); exact HQ47.out⟩, ⟨by (try simp only [hl13_2]); (try simp only [hl13_3]); (with_reducible repeat (first | apply Kd.ta_ | apply Kd.ua_ | apply Kd.db_)); exact Kd.uc_ (Kd.te_ (p := ⟨go44, (x72_2 : Int).toNat, none⟩) (Kd.uc_ HO_75.out (fun k_ hk => (⟨hk, fun e_ => hk (by rw [e_]; rfl)⟩ : _ ∧ k_ ≠ go44))) (fun _ hk => hk.2) (.int .i64 t124)) (fun _ hk => hk.1)⟩, ⟨by repeat (first | (with_reducible first | exact HB.out | apply da_ | apply aa_ | apply ca_ | refine ia_ ?_ GB44.out) | exact HB.out)⟩⟩
                 ·rw [if_neg c41] at H
                  exact absurd H (by simp)
                ·rw [if_neg c40] at H
                 exact absurd H (by simp)
               ·rw [if_neg c38] at H
                exact absurd H (by simp)
              ·rw [if_neg c37] at H
               exact absurd H (by simp)
             ·rw [if_neg c36] at H
              exact absurd H (by simp)
            ·rw [if_neg c35] at H
             exact absurd H (by simp)
           ·rw [if_neg c34] at H
            have c34b0 : decide (x77_3 < (x8_1.length : Int)) = false := decide_eq_false c34
            clear c34
            have H' := ba_.mk H
            clear H
            go_wp2
            (try simp only [← hl13_2, ← hl13_3])
            go_roundg k3
            case measure => have := HK1.out; have := HK2.out; have := HK3.out; omega
            case rel => exact ⟨(x13_3), (wrap64 (x72_2 + 1)), (by first | rfl | (simp; done) | (simp [*]; done)), H', ⟨by have := HK1.out; have := HK2.out; have := HK3.out; omega⟩, ⟨by (try simp only [hl13_2]); (try simp only [hl13_3]); (with_reducible repeat (first | apply Kd.ta_ | apply Kd.ua_ | apply Kd.db_)); exact HO_8.out⟩, ⟨by (try simp only [hl13_2]); (try simp only [hl13_3]); (with_reducible repeat (first | apply Kd.ta_ | apply Kd.ua_ | apply Kd.db_)); exact HO_12.out⟩, ⟨by (try simp only [hl13_2]); (try simp only [hl13_3]); (with_reducible repeat (first | apply Kd.ta_ | apply Kd.ua_ | apply Kd.db_)); exact Kd.uc_ HO_13.out (fun _ hk => hk.1)⟩, ⟨by repeat (first | (with_reducible first | exact HB.out | apply da_ | apply aa_ | apply ca_) | exact HB.out)⟩⟩
        ·rw [if_neg c32] at H
         have c32b0 : decide (x72_2 < (y117.length : Int)) = false := decide_eq_false c32
         (try simp only [hl13_2] at c32b0)
         clear c32
         by_cases c48 : a2 = 0
         ·rw [if_pos c48] at H
          have c48b0 : (a2 == 0) = true := beq_iff_eq.mpr c48
          have c48b1 : (a2 != 0) = false := bne_eq_false_iff_eq.mpr c48
          clear c48
          simp only [Option.some.injEq, Prod.mk.injEq] at H
          obtain ⟨rfl, rfl⟩ := H
          go_wp2
          go_ret2
          exact ⟨_, by first | rfl | (simp [xa_, ya_] <;> rfl) | (simp only [← hji25]; first | rfl | (simp [xa_, ya_] <;> rfl)) | (simp [*, xa_, ya_] <;> rfl), by first | exact Kd.ue_ _ _ _ _ _ | exact Kd.qg_ _ _ _ _ _ | exact Kd.ug_ _ _ _ _ _ | exact Kd.rg_ _ _ _ _ _ | exact Kd.tg_ _ _ _ _ _, by repeat (first | (with_reducible first | exact HB.out | apply da_ | apply aa_ | apply ca_) | exact HB.out)⟩
         ·rw [if_neg c48] at H
          have c48b0 : (a2 == 0) = false := beq_eq_false_iff_ne.mpr c48
          have c48b1 : (a2 != 0) = true := bne_iff_ne.mpr c48
          have H' := ba_.mk H
          clear H
          go_wp2
          go_loopg [17, 108] k2 (fun kq v17 v108 w' => ∃ (x17_3 : List (List Int)) (x108_3 : Int), v108 = .int .i64 x108_3 ∧ ba_ (fa_.l4 kq l0 a2 x13_2 x17_3 (wrap64 ((x13_2.length : Int) - a2)) x108_3 = some (r1, r2)) ∧ ba_ (kq ≤ k2) ∧ ba_ (Kd.R (Kd.int .i64) 83 w' w.heap.size (fun _ => True) (.slice Ao31 x13_2.length co31) x13_2) ∧ ba_ (Kd.S (Kd.slice 83 (Kd.int .i64)) 86 w' w.heap.size (fun k_ => some k_ ≠ ((.slice Ao31 x13_2.length co31) : Value).ownBlock) v17 x17_3) ∧ ba_ (Below w.heap.size w w'))
          case atStart => exact ⟨(([] : List (List Int))), (0), (by first | rfl | (simp; done) | (simp [*]; done)), H', ⟨Nat.le_refl _⟩, ⟨by (try simp only [hl13_2]); (with_reducible repeat (first | apply Kd.ta_ | apply Kd.ua_ | apply Kd.db_)); exact Kd.uc_ HO_13.out (fun _ hk => trivial)⟩, ⟨by (try simp only [hl13_2]); first | exact Kd.tg_ _ _ _ _ _ | exact Kd.qg_ _ _ _ _ _ | exact Kd.ug_ _ _ _ _ _ | exact Kd.rg_ _ _ _ _ _ | exact Kd.ue_ _ _ _ _ _⟩, ⟨by repeat (first | (with_reducible first | exact HB.out | apply da_ | apply aa_ | apply ca_) | exact HB.out)⟩⟩
          case round =>
           clear H'
           try clear c1
           try clear p1
           try clear q1
           try clear hx1
           try clear c2
           try clear p2
           try clear q2
           try clear hx2
           try clear c3
           try clear c4
           try clear p4
           try clear q4
           try clear hx4
           try clear hf4
           try clear c5
           try clear c6
           try clear c6b0
           try clear p6
           try clear c7
           try clear c7b0
           try clear c8
           try clear c8b0
           try clear c9
           try clear p10
           try clear q10
           try clear hx10
           try clear c12
           try clear c12b0
           try clear p12
           try clear q12
           try clear hx12
           try clear c13
           try clear c13b0
           try clear c14
           try clear c14b0
           try clear c16
           try clear c16b0
           try clear c17
           try clear c17b0
           try clear p21
           try clear q21
           try clear hx21
           try clear hf21
           try clear c26
           try clear c26b0
           try clear c26b1
           try clear c27
           try clear c27b0
           try clear c27b1
           try clear c32
           try clear c32b0
           try clear c34
           try clear c34b0
           try clear c35
           try clear c35b0
           try clear c36
           try clear c36b0
           try clear c37
           try clear c37b0
           try clear c38
           try clear c38b0
           try clear c40
           try clear c40b0
           try clear c41
           try clear c41b0
           try clear p44
           try clear q44
           try clear hx44
           try clear hf44
           try clear c48
           try clear c48b0
           try clear c48b1
           try clear hx104_0
           try clear hx108_0
           try clear hx109_0
           try clear hx120_0
           try clear hx121_0
           try clear hx122_0
           try clear hx21_0
           try clear hx44_0
           try clear p1
           try clear p10
           try clear p104
           try clear p108
           try clear p109
           try clear p120
           try clear p121
           try clear p122
           try clear p2
           try clear p21
           try clear p44
           try clear p6
           try clear q1
           try clear q10
           try clear q104
           try clear q108
           try clear q109
           try clear q120
           try clear q121
           try clear q122
           try clear q2
           try clear q21
           try clear q44
           obtain ⟨x17_3, x108_3, rfl, HA, HK3, HO_13, HO_17, HB⟩ := hrel
           cases gk with
           | zero => exact absurd HA.out (by simp [fa_.l4])
           | succ k3 =>
            have H := HA.out
            clear HA
            simp only [fa_.l4] at H
            by_cases c49 : x108_3 < (wrap64 ((x13_2.length : Int) - a2))
            ·rw [if_pos c49] at H
             have c49b0 : decide (x108_3 < (wrap64 ((x13_2.length : Int) - a2))) = true := decide_eq_true c49
             clear c49
             have H' := ba_.mk H
             clear H
             go_wp2
             go_loopg [19, 20] k3 (fun kq v19 v20 w' => ∃ (x19_4 : List Int) (x20_4 : Int), v20 = .int .i64 x20_4 ∧ ba_ (fa_.l5 kq l0 a2 x13_2 x17_3 x108_3 x19_4 x20_4 (wrap64 ((x13_2.length : Int) - a2)) x108_3 = some (r1, r2)) ∧ ba_ (kq ≤ k3) ∧ ba_ (Kd.R (Kd.int .i64) 83 w' w.heap.size (fun k_ => some k_ ≠ (v19 : Value).ownBlock) (.slice Ao31 x13_2.length co31) x13_2) ∧ ba_ (Kd.S (Kd.slice 83 (Kd.int .i64)) 86 w' w.heap.size (fun k_ => some k_ ≠ ((.slice Ao31 x13_2.length co31) : Value).ownBlock ∧ some k_ ≠ (v19 : Value).ownBlock) u17 x17_3) ∧ ba_ (Kd.R (Kd.int .i64) 83 w' w.heap.size (fun k_ => some k_ ≠ ((.slice Ao31 x13_2.length co31) : Value).ownBlock) v19 x19_4) ∧ ba_ (Below w.heap.size w w'))
             case atStart => exact ⟨(([] : List Int)), (1), (by first | rfl | (simp; done) | (simp [*]; done)), H', ⟨Nat.le_refl _⟩, ⟨by (try simp only [hl13_2]); (with_reducible repeat (first | apply Kd.ta_ | apply Kd.ua_ | apply Kd.db_)); exact Kd.uc_ HO_13.out (fun _ hk => (by simp [Value.ownBlock]))⟩, ⟨by (try simp only [hl13_2]); (with_reducible repeat (first | apply Kd.le_ | apply Kd.me_ | apply Kd.kf_)); exact Kd.oh_ HO_17.out (fun _ hk => ⟨hk, (by simp [Value.ownBlock])⟩)⟩, ⟨by (try simp only [hl13_2]); first | exact Kd.ue_ _ _ _ _ _ | exact Kd.qg_ _ _ _ _ _ | exact Kd.ug_ _ _ _ _ _ | exact Kd.rg_ _ _ _ _ _ | exact Kd.tg_ _ _ _ _ _⟩, ⟨by repeat (first | (with_reducible first | exact HB.out | apply da_ | apply aa_ | apply ca_) | exact HB.out)⟩⟩
             case round =>
              clear H'
              try clear c1
              try clear p1
              try clear q1
              try clear hx1
              try clear c2
              try clear p2
              try clear q2
              try clear hx2
              try clear c3
              try clear c4
              try clear p4
              try clear q4
              try clear hx4
              try clear hf4
              try clear c5
              try clear c6
              try clear c6b0
              try clear p6
              try clear c7
              try clear c7b0
              try clear c8
              try clear c8b0
              try clear c9
              try clear p10
              try clear q10
              try clear hx10
              try clear c12
              try clear c12b0
              try clear p12
              try clear q12
              try clear hx12
              try clear c13
              try clear c13b0
              try clear c14
              try clear c14b0
              try clear c16
              try clear c16b0
              try clear c17
              try clear c17b0
              try clear p21
              try clear q21
              try clear hx21
              try clear hf21
              try clear c26
              try clear c26b0
              try clear c26b1
              try clear c27
              try clear c27b0
              try clear c27b1
              try clear c32
              try clear c32b0
              try clear c34
              try clear c34b0
              try clear c35
              try clear c35b0
              try clear c36
              try clear c36b0
              try clear c37
              try clear c37b0
              try clear c38
              try clear c38b0
              try clear c40
              try clear c40b0
              try clear c41
              try clear c41b0
              try clear p44
              try clear q44
              try clear hx44
              try clear hf44
              try clear c48
              try clear c48b0
              try clear c48b1
              try clear c49
              try clear c49b0
              try clear hx104_0
              try clear hx108_0
              try clear hx109_0
              try clear hx120_0
              try clear hx121_0
              try clear hx122_0
              try clear hx21_0
              try clear hx44_0
              try clear p1
              try clear p10
              try clear p104
              try clear p108
              try clear p109
              try clear p12
              try clear p120
              try clear p121
              try clear p122
              try clear p2
              try clear p21
              try clear p4
              try clear p44
              try clear p6
              try clear q1
              try clear q10
              try clear q104
              try clear q108
              try clear q109
              try clear q12
              try clear q120
              try clear q121
              try clear q122
              try clear q2
              try clear q21
              try clear q4
              try clear q44
              obtain ⟨x19_4, x20_4, rfl, HA, HK4, HO_13, HO_17, HO_19, HB⟩ := hrel
              cases gk with
              | zero => exact absurd HA.out (by simp [fa_.l5])
              | succ k4 =>
               have H := HA.out
               clear HA
               simp only [fa_.l5] at H
               by_cases c50 : x20_4 ≤ a2
               ·rw [if_pos c50] at H
                have c50b0 : decide (x20_4 ≤ a2) = true := decide_eq_true c50
                clear c50
                obtain ⟨ji51, hji51⟩ : ∃ j_ : Int, (wrap64 ((wrap64 (x108_3 + a2)) - x20_4)) = j_ := ⟨_, rfl⟩
                replace H : (if 0 ≤ (ji51) then (if (ji51) < (x13_2.length : Int) then (if x19_4.length < 17592186044416 then (fa_.l5 k4 l0 a2 x13_2 x17_3 x108_3 (x19_4 ++ [rd x13_2 (ji51)]) (wrap64 (x20_4 + 1)) (wrap64 ((x13_2.length : Int) - a2)) x108_3) else (none)) else (none)) else (none)) = some (r1, r2) := by first | (rw [hji51] at H; exact H) | (simp only [hji51] at H ⊢; exact H)
                have hji51w : (IntKind.i64.wrap ((wrap64 (x108_3 + a2)) - x20_4)) = ji51 := (fb_ _).trans hji51
                by_cases c52 : 0 ≤ (ji51)
                ·rw [if_pos c52] at H
                 have c52b0 : decide (0 ≤ (ji51)) = true := decide_eq_true c52
                 clear c52
                 by_cases c53 : (ji51) < (x13_2.length : Int)
                 ·rw [if_pos c53] at H
                  have c53b0 : decide ((ji51) < (x13_2.length : Int)) = true := decide_eq_true c53
                  clear c53
                  by_cases c54 : x19_4.length < 17592186044416
                  ·rw [if_pos c54] at H
                   have LMc54 := ba_.mk c54
                   clear c54
                   obtain ⟨y127, hy127⟩ : ∃ y_ : List Int, y_ = (x19_4 ++ [rd x13_2 (ji51)]) := ⟨_, rfl⟩
                   replace H : (fa_.l5 k4 l0 a2 x13_2 x17_3 x108_3 y127 (wrap64 (x20_4 + 1)) (wrap64 ((x13_2.length : Int) - a2)) x108_3) = some (r1, r2) := by first | (rw [hy127]; with_reducible exact H) | (have H2_ := (Option.bind_some _ _).symm.trans H; rw [hy127]; with_reducible exact H2_) | (have H2_ := (Option.bind_some _ _).symm.trans H; with_reducible exact H2_) | with_reducible exact H | (rw [hy127]; exact H) | exact H
                   have Ny127 := ba_.mk hy127
                   clear hy127
                   have H' := ba_.mk H
                   clear H
                   have p126 : 0 ≤ ((ji51) : Int) := of_decide_eq_true (by first | (with_reducible assumption) | assumption)
                   have q126 : (ji51) < (x13_2.length : Int) := of_decide_eq_true (by first | (with_reducible assumption) | assumption)
                   obtain ⟨ad126, e126, hx126_0⟩ := Kd.id_ (Kd.lb_ HO_13.out).2.2 (ji51) p126 q126
                   cases e126
                   replace p126 := eq_true p126
                   replace q126 := eq_true q126
                   go_wp2_with (first | ((with_reducible refine pd_ (b := .append) (xs := #[.tmp 116, .tmp 125]) rfl ?_); at_builtin; refine Kd.af_ (Kd.int .i64) (w0 := w) w.heap.size rfl (.tmp 116) (.tmp 125) 86 83 (.int .i64 0) 8 rfl Tryd.underlying86 qh_ rfl (by decide) (by omega) u19 x19_4 (rd x13_2 (ji51)) [.int .i64 (rd x13_2 (ji51))] (fun k_ => some k_ ≠ (.slice (some ad126) x13_2.length co31 : Value).ownBlock) (fun _ => False) rfl rfl ?aP (fun _ hk => hk.elim) ?aF ?aO ?aB ?aS ?aL ?_; (case aP => exact rfl); (case aB => exact (by repeat (first | (with_reducible first | exact HB.out | apply da_ | apply aa_ | apply ca_) | exact HB.out))); (case aF => exact (fun k_ hk => Kd.fresh' (Kd.R_lt (by (with_reducible repeat (first | apply Kd.ta_ | apply Kd.ua_ | apply Kd.db_)); exact HO_13.out)) k_ hk)); (case aO => exact (by (with_reducible repeat (first | apply Kd.ta_ | apply Kd.ua_ | apply Kd.db_)); exact HO_19.out)); (case aS => exact (wa_ (by repeat (first | (with_reducible first | exact HB.out | apply da_ | apply aa_ | apply ca_) | exact HB.out)))); (case aL => have := LMc54.out; omega); intro v128 w55 ho hb hg hat; rw [← Ny127.out] at ho; have n0_ := ba_.mk (Kd.rj_ (ok := (fun _ => True)) (by (with_reducible repeat (first | apply Kd.ta_ | apply Kd.ua_ | apply Kd.db_)); exact Kd.uc_ HO_13.out (fun _ hk => ⟨trivial, hk⟩)) hg hat); have n1_ := ba_.mk (Kd.sj_ (ok := (fun k_ => some k_ ≠ (.slice (some ad126) x13_2.length co31 : Value).ownBlock)) (by (with_reducible repeat (first | apply Kd.le_ | apply Kd.me_ | apply Kd.kf_)); exact HO_17.out) hg hat); have n2_ := ba_.mk (hb); have n3_ := ba_.mk (ho); clear HO_13; clear HO_17; clear HB; clear HO_19; have HO_13 := n0_; have HO_17 := n1_; have HB := n2_; have HO129 := n3_; clear n0_ n1_ n2_ n3_; clear ho hb hg hat))
                   go_roundg k4
                   case measure => have := HK1.out; have := HK2.out; have := HK3.out; have := HK4.out; omega
                   case rel => exact ⟨(y127), (wrap64 (x20_4 + 1)), (by first | rfl | (simp; done) | (simp [*]; done)), H', ⟨by have := HK1.out; have := HK2.out; have := HK3.out; have := HK4.out; omega⟩, ⟨by (try simp only [hl13_2]); (with_reducible repeat (first | apply Kd.ta_ | apply Kd.ua_ | apply Kd.db_)); exact Kd.uc_ HO_13.out (fun _ hk => hk.2)⟩, ⟨by (try simp only [hl13_2]); (with_reducible repeat (first | apply Kd.le_ | apply Kd.me_ | apply Kd.kf_)); exact HO_17.out⟩, ⟨by (try simp only [hl13_2]); (with_reducible repeat (first | apply Kd.ta_ | apply Kd.ua_ | apply Kd.db_)); exact HO129.out⟩, ⟨by repeat (first | (with_reducible first | exact HB.out | apply da_ | apply aa_ | apply ca_) | exact HB.out)⟩⟩
                  ·rw [if_neg c54] at H
                   exact absurd H (by simp)
                 ·rw [if_neg c53] at H
                  exact absurd H (by simp)
                ·rw [if_neg c52] at H
                 exact absurd H (by simp)
               ·rw [if_neg c50] at H
                have c50b0 : decide (x20_4 ≤ a2) = false := decide_eq_false c50
                clear c50
                obtain ⟨ji56, hji56⟩ : ∃ j_ : Int, (wrap64 (x108_3 + a2)) = j_ := ⟨_, rfl⟩
                replace H : (if 0 ≤ (ji56) then (if (ji56) < (x13_2.length : Int) then (if x19_4.length < 17592186044416 then (if x17_3.length < 5864062014805 then (fa_.l4 k4 l0 a2 x13_2 (x17_3 ++ [(x19_4 ++ [rd x13_2 (ji56)])]) (wrap64 ((x13_2.length : Int) - a2)) (wrap64 (x108_3 + 1))) else (none)) else (none)) else (none)) else (none)) = some (r1, r2) := by first | (rw [hji56] at H; exact H) | (simp only [hji56] at H ⊢; exact H)
                have hji56w : (IntKind.i64.wrap (x108_3 + a2)) = ji56 := (fb_ _).trans hji56
                by_cases c57 : 0 ≤ (ji56)
                ·rw [if_pos c57] at H
                 have c57b0 : decide (0 ≤ (ji56)) = true := decide_eq_true c57
                 clear c57
                 by_cases c58 : (ji56) < (x13_2.length : Int)
                 ·rw [if_pos c58] at H
                  have c58b0 : decide ((ji56) < (x13_2.length : Int)) = true := decide_eq_true c58
                  clear c58
                  by_cases c59 : x19_4.length < 17592186044416
                  ·rw [if_pos c59] at H
                   have LMc59 := ba_.mk c59
                   clear c59
                   obtain ⟨y131, hy131⟩ : ∃ y_ : List Int, y_ = (x19_4 ++ [rd x13_2 (ji56)]) := ⟨_, rfl⟩
                   replace H : (if x17_3.length < 5864062014805 then (fa_.l4 k4 l0 a2 x13_2 (x17_3 ++ [y131]) (wrap64 ((x13_2.length : Int) - a2)) (wrap64 (x108_3 + 1))) else (none)) = some (r1, r2) := by first | (rw [hy131]; with_reducible exact H) | (have H2_ := (Option.bind_some _ _).symm.trans H; rw [hy131]; with_reducible exact H2_) | (have H2_ := (Option.bind_some _ _).symm.trans H; with_reducible exact H2_) | with_reducible exact H | (rw [hy131]; exact H) | exact H
                   have Ny131 := ba_.mk hy131
                   clear hy131
                   by_cases c60 : x17_3.length < 5864062014805
                   ·rw [if_pos c60] at H
                    have LMc60 := ba_.mk c60
                    clear c60
                    obtain ⟨y134, hy134⟩ : ∃ y_ : List (List Int), y_ = (x17_3 ++ [y131]) := ⟨_, rfl⟩
                    replace H : (fa_.l4 k4 l0 a2 x13_2 y134 (wrap64 ((x13_2.length : Int) - a2)) (wrap64 (x108_3 + 1))) = some (r1, r2) := by first | (rw [hy134]; with_reducible exact H) | (have H2_ := (Option.bind_some _ _).symm.trans H; rw [hy134]; with_reducible exact H2_) | (have H2_ := (Option.bind_some _ _).symm.trans H; with_reducible exact H2_) | with_reducible exact H | (rw [hy134]; exact H) | exact H
                    have Ny134 := ba_.mk hy134
                    clear hy134
                    have H' := ba_.mk H
                    clear H
                    have p130 : 0 ≤ ((ji56) : Int) := of_decide_eq_true (by first | (with_reducible assumption) | assumption)
                    have q130 : (ji56) < (x13_2.length : Int) := of_decide_eq_true (by first | (with_reducible assumption) | assumption)
                    obtain ⟨ad130, e130, hx130_0⟩ := Kd.id_ (Kd.lb_ HO_13.out).2.2 (ji56) p130 q130
                    cases e130
                    replace p130 := eq_true p130
                    replace q130 := eq_true q130
                    go_wp2_with (first | ((with_reducible refine pd_ (b := .append) (xs := #[.tmp 128, .tmp 135]) rfl ?_); at_builtin; refine Kd.af_ (Kd.int .i64) (w0 := w) w.heap.size rfl (.tmp 128) (.tmp 135) 86 83 (.int .i64 0) 8 rfl Tryd.underlying86 qh_ rfl (by decide) (by omega) u19 x19_4 (rd x13_2 (ji56)) [.int .i64 (rd x13_2 (ji56))] (fun k_ => some k_ ≠ (.slice (some ad130) x13_2.length co31 : Value).ownBlock) (fun _ => False) rfl rfl ?aP (fun _ hk => hk.elim) ?aF ?aO ?aB ?aS ?aL ?_; (case aP => exact rfl); (case aB => exact (by repeat (first | (with_reducible first | exact HB.out | apply da_ | apply aa_ | apply ca_) | exact HB.out))); (case aF => exact (fun k_ hk => Kd.fresh' (Kd.R_lt (by (with_reducible repeat (first | apply Kd.ta_ | apply Kd.ua_ | apply Kd.db_)); exact HO_13.out)) k_ hk)); (case aO => exact (by (with_reducible repeat (first | apply Kd.ta_ | apply Kd.ua_ | apply Kd.db_)); exact HO_19.out)); (case aS => exact (wa_ (by repeat (first | (with_reducible first | exact HB.out | apply da_ | apply aa_ | apply ca_) | exact HB.out)))); (case aL => have := LMc59.out; omega); intro v132 w61 ho hb hg hat; rw [← Ny131.out] at ho; have n0_ := ba_.mk (Kd.rj_ (ok := (fun _ => True)) (by (with_reducible repeat (first | apply Kd.ta_ | apply Kd.ua_ | apply Kd.db_)); exact Kd.uc_ HO_13.out (fun _ hk => ⟨trivial, hk⟩)) hg hat); have n1_ := ba_.mk (Kd.sj_ (ok := (fun k_ => some k_ ≠ (.slice (some ad130) x13_2.length co31 : Value).ownBlock)) (by (with_reducible repeat (first | apply Kd.le_ | apply Kd.me_ | apply Kd.kf_)); exact HO_17.out) hg hat); have n2_ := ba_.mk (hb); have n3_ := ba_.mk (ho); clear HO_13; clear HO_17; clear HB; clear HO_19; have HO_13 := n0_; have HO_17 := n1_; have HB := n2_; have HO133 := n3_; clear n0_ n1_ n2_ n3_; clear ho hb hg hat; obtain ⟨Ao63, co63, eo63⟩ := Kd.nc_ HO133.out; subst eo63) | ((with_reducible refine pd_ (b := .append) (xs := #[.tmp 127, .tmp 137]) rfl ?_); at_builtin; refine Kd.om_ (Kd.slice 83 (Kd.int .i64)) (w0 := w) w.heap.size rfl (.tmp 127) (.tmp 137) 82 86 (.slice none 0 0) 24 rfl Tryd.underlying82 qo_ rfl (by decide) (by omega) u17 x17_3 y131 [.slice Ao63 y131.length co63] (fun k_ => some k_ ≠ (.slice (some ad130) x13_2.length co31 : Value).ownBlock) (fun k_ => some k_ = (.slice Ao63 y131.length co63 : Value).ownBlock) rfl rfl ?aP (fun k_ hk_ => ((Kd.uc_ (ok' := fun k_ => ((fun k_ => some k_ ≠ (.slice (some ad130) x13_2.length co31 : Value).ownBlock)) k_ ∧ some k_ ≠ (u17 : Value).ownBlock) (Kd.vh_ (HO133.out) (Kd.bi_ HO_17.out) (by decide)) (fun k_ hk => ⟨hk.1, hk.2⟩))).1 k_ hk_.symm) ?aF ?aO ?aB ?aS ?aL ?_; (case aP => exact Kd.M_row (Kd.uc_ (Kd.xn_ rfl (Kd.uc_ (ok' := fun k_ => ((fun k_ => some k_ ≠ (.slice (some ad130) x13_2.length co31 : Value).ownBlock)) k_ ∧ some k_ ≠ (u17 : Value).ownBlock) (Kd.vh_ (HO133.out) (Kd.bi_ HO_17.out) (by decide)) (fun k_ hk => ⟨hk.1, hk.2⟩))) (fun _ h_ => h_))); (case aB => exact (by repeat (first | (with_reducible first | exact HB.out | apply da_ | apply aa_ | apply ca_) | exact HB.out))); (case aF => exact (fun k_ hk => Kd.fresh' (Kd.R_lt (by (with_reducible repeat (first | apply Kd.ta_ | apply Kd.ua_ | apply Kd.db_)); exact HO_13.out)) k_ hk)); (case aO => exact (by (with_reducible repeat (first | apply Kd.le_ | apply Kd.me_ | apply Kd.kf_)); exact Kd.oh_ HO_17.out (fun k_ hk => ⟨hk.1, fun e_ => hk.2 e_⟩))); (case aS => exact (wa_ (by repeat (first | (with_reducible first | exact HB.out | apply da_ | apply aa_ | apply ca_) | exact HB.out)))); (case aL => have := LMc60.out; omega); intro v135 w62 ho hb hg hat; rw [← Ny134.out] at ho; have n0_ := ba_.mk (Kd.jl_ (by (with_reducible repeat (first | apply Kd.ta_ | apply Kd.ua_ | apply Kd.db_)); exact HO_13.out) (Kd.bi_ (by (with_reducible repeat (first | apply Kd.le_ | apply Kd.me_ | apply Kd.kf_)); exact HO_17.out)) (by decide) hg); have n1_ := ba_.mk (hb); have n2_ := ba_.mk (ho); clear HO_13; clear HB; clear HO_17; clear HO133; have HO_13 := n0_; have HB := n1_; have HO136 := n2_; clear n0_ n1_ n2_; clear ho hb hg hat))
                    go_roundg k4
                    case measure => have := HK1.out; have := HK2.out; have := HK3.out; have := HK4.out; omega
                    case rel => exact ⟨(y134), (wrap64 (x108_3 + 1)), (by first | rfl | (simp; done) | (simp [*]; done)), H', ⟨by have := HK1.out; have := HK2.out; have := HK3.out; have := HK4.out; omega⟩, ⟨by (try simp only [hl13_2]); (with_reducible repeat (first | apply Kd.ta_ | apply Kd.ua_ | apply Kd.db_)); exact Kd.uc_ HO_13.out (fun _ hk => trivial)⟩, ⟨by (try simp only [hl13_2]); (with_reducible repeat (first | apply Kd.le_ | apply Kd.me_ | apply Kd.kf_)); exact HO136.out⟩, ⟨by repeat (first | (with_reducible first | exact HB.out | apply da_ | apply aa_ | apply ca_) | exact HB.out)⟩⟩
                   ·rw [if_neg c60] at H
                    exact absurd H (by simp)
                  ·rw [if_neg c59] at H
                   exact absurd H (by simp)
                 ·rw [if_neg c58] at H
                  exact absurd H (by simp)
                ·rw [if_neg c57] at H
                 exact absurd H (by simp)
            ·rw [if_neg c49] at H
             have c49b0 : decide (x108_3 < (wrap64 ((x13_2.length : Int) - a2))) = false := decide_eq_false c49
             clear c49
             replace H := Option.bind_eq_some_iff.mp H
             obtain ⟨⟨t137, t138⟩, A640, H⟩ := H
             replace H : (if t138 = true then (fa_.l6 k3 l0 a2 t137 ([] : List Int) l0 (l0.length : Int) 0) else (some (([] : List Int), false))) = some (r1, r2) := H
             have A64 := ba_.mk A640
             clear A640
             by_cases c65 : t138 = true
             ·subst c65
              have H1 : (fa_.l6 k3 l0 a2 t137 ([] : List Int) l0 (l0.length : Int) 0) = some (r1, r2) := by rw [if_pos rfl] at H; exact H
              clear H
              have H := H1
              clear H1
              have H' := ba_.mk H
              clear H
              obtain ⟨Ao66, co66, eo66⟩ := Kd.tj_ HO_17.out
              subst eo66
              go_wp2_with (first | ((with_reducible refine la_ (f := 55) rfl ?_); refine wb_ (some 142) rfl rfl Tryd.func55 (by kernel_rfl) rfl #[.slice Ao66 x17_3.length co66] rfl (by (try simp only [List.map_toArray, List.map_cons, List.map_nil]); first | done | rfl | (simp only [List.length_drop, List.length_take]; rfl)) ?_; (refine (uf_.calls w.heap.size _ _ _ x17_3 t137 true _ HO_17.out (wa_ HB.out) A64.out).mono ?_); rintro e w67 ⟨v139, rfl, ho0, hb⟩; refine ⟨_, rfl, ?_⟩; have n2_ := ba_.mk (Kd.wc_ (Kd.yd_ ho0 (Kd.R_lt (by (with_reducible repeat (first | apply Kd.ta_ | apply Kd.ua_ | apply Kd.db_)); exact HO_13.out))) (wa_ (by repeat (first | (with_reducible first | exact HB.out | apply da_ | apply aa_ | apply ca_) | exact HB.out)))); have n3_ := ba_.mk (HB.out.trans hb); clear HB; have HO140 := n2_; have HB := n3_; clear n2_ n3_; (try clear hb); (try clear hb2); (try clear hk); (try clear hi); (try clear ho0)))
              go_loopg [23, 149] k3 (fun kq v23 v149 w' => ∃ (x23_4 : List Int) (x149_4 : Int), v149 = .int .i64 x149_4 ∧ ba_ (fa_.l6 kq l0 a2 t137 x23_4 l0 (l0.length : Int) x149_4 = some (r1, r2)) ∧ ba_ (kq ≤ k3) ∧ ba_ (Kd.R (Kd.int .i64) 83 w' w.heap.size (fun _ => True) v139 t137) ∧ ba_ (Kd.R (Kd.int .i64) 3 w' w.heap.size (fun _ => True) v23 x23_4) ∧ ba_ (Below w.heap.size w w'))
              case atStart => exact ⟨(([] : List Int)), (0), (by first | rfl | (simp; done) | (simp [*]; done)), H', ⟨Nat.le_refl _⟩, ⟨by (try simp only [hl13_2]); (with_reducible repeat (first | apply Kd.ta_ | apply Kd.ua_ | apply Kd.db_)); exact Kd.uc_ HO140.out (fun _ hk => trivial)⟩, ⟨by (try simp only [hl13_2]); first | exact Kd.ue_ _ _ _ _ _ | exact Kd.qg_ _ _ _ _ _ | exact Kd.ug_ _ _ _ _ _ | exact Kd.rg_ _ _ _ _ _ | exact Kd.tg_ _ _ _ _ _⟩, ⟨by repeat (first | (with_reducible first | exact HB.out | apply da_ | apply aa_ | apply ca_) | exact HB.out)⟩⟩
              case round =>
               clear H'
               try clear c1
               try clear p1
               try clear q1
               try clear hx1
               try clear c2
               try clear p2
               try clear q2
               try clear hx2
               try clear c3
               try clear c4
               try clear p4
               try clear q4
               try clear hx4
               try clear hf4
               try clear c5
               try clear c6
               try clear c6b0
               try clear p6
               try clear c7
               try clear c7b0
               try clear c8
               try clear c8b0
               try clear c9
               try clear p10
               try clear q10
               try clear hx10
               try clear c12
               try clear c12b0
               try clear p12
               try clear q12
               try clear hx12
               try clear c13
               try clear c13b0
               try clear p13
               try clear q13
               try clear hx13
               try clear c14
               try clear c14b0
               try clear c16
               try clear c16b0
               try clear c17
               try clear c17b0
               try clear p21
               try clear q21
               try clear hx21
               try clear hf21
               try clear c26
               try clear c26b0
               try clear c26b1
               try clear c27
               try clear c27b0
               try clear c27b1
               try clear c32
               try clear c32b0
               try clear c34
               try clear c34b0
               try clear c35
               try clear c35b0
               try clear c36
               try clear c36b0
               try clear c37
               try clear c37b0
               try clear c38
               try clear c38b0
               try clear c40
               try clear c40b0
               try clear c41
               try clear c41b0
               try clear p44
               try clear q44
               try clear hx44
               try clear hf44
               try clear c48
               try clear c48b0
               try clear c48b1
               try clear c49
               try clear c49b0
               try clear c50
               try clear c50b0
               try clear c52
               try clear c52b0
               try clear c53
               try clear c53b0
               try clear c54
               try clear c55
               try clear c57
               try clear c57b0
               try clear c58
               try clear c58b0
               try clear c59
               try clear c60
               try clear p64
               try clear c65
               try clear c66
               try clear hx104_0
               try clear hx108_0
               try clear hx109_0
               try clear hx120_0
               try clear hx121_0
               try clear hx122_0
               try clear hx126_0
               try clear hx130_0
               try clear hx21_0
               try clear hx44_0
               try clear p1
               try clear p10
               try clear p104
               try clear p108
               try clear p109
               try clear p12
               try clear p120
               try clear p121
               try clear p122
               try clear p126
               try clear p130
               try clear p2
               try clear p21
               try clear p4
               try clear p44
               try clear p6
               try clear q1
               try clear q10
               try clear q104
               try clear q108
               try clear q109
               try clear q12
               try clear q120
               try clear q121
               try clear q122
               try clear q126
               try clear q130
               try clear q2
               try clear q21
               try clear q4
               try clear q44
               obtain ⟨x23_4, x149_4, rfl, HA, HK4, HO_21, HO_23, HB⟩ := hrel
               cases gk with
               | zero => exact absurd HA.out (by simp [fa_.l6])
               | succ k4 =>
                have H := HA.out
                clear HA
                simp only [fa_.l6] at H
                by_cases c68 : x149_4 < (l0.length : Int)
                ·rw [if_pos c68] at H
                 have c68b0 : decide (x149_4 < (l0.length : Int)) = true := decide_eq_true c68
                 clear c68
                 by_cases c69 : 0 ≤ x149_4
                 ·rw [if_pos c69] at H
                  have c69b0 : decide (0 ≤ x149_4) = true := decide_eq_true c69
                  clear c69
                  by_cases c70 : x149_4 < (l0.length : Int)
                  ·rw [if_pos c70] at H
                   have c70b0 : decide (x149_4 < (l0.length : Int)) = true := decide_eq_true c70
                   clear c70
                   have H' := ba_.mk H
                   clear H
                   have p141 : 0 ≤ (x149_4 : Int) := of_decide_eq_true (by first | (with_reducible assumption) | assumption)
                   have q141 : x149_4 < (l0.length : Int) := of_decide_eq_true (by first | (with_reducible assumption) | assumption)
                   obtain ⟨ad141, e141, hx141_0⟩ := Kd.id_ HR0.out x149_4 p141 q141
                   cases e141
                   replace hx141_0 := (HB.out.cell (World.block_lt_of_cell? w _ hx141_0)).trans hx141_0
                   replace p141 := eq_true p141
                   replace q141 := eq_true q141
                   obtain ⟨Ao71, co71, eo71⟩ := Kd.nc_ HO_21.out
                   subst eo71
                   go_wp2
                   go_loopg [26, 156] k4 (fun kq v26 v156 w' => ∃ (x26_5 : Int) (x156_5 : Int), v26 = .int .i64 x26_5 ∧ v156 = .int .i64 x156_5 ∧ ba_ (fa_.l7 kq l0 a2 t137 x23_4 x149_4 (rd l0 x149_4) x26_5 l0 (l0.length : Int) x149_4 t137 (t137.length : Int) x156_5 = some (r1, r2)) ∧ ba_ (kq ≤ k4) ∧ ba_ (Kd.R (Kd.int .i64) 83 w' w.heap.size (fun _ => True) (.slice Ao71 t137.length co71) t137) ∧ ba_ (Kd.R (Kd.int .i64) 3 w' w.heap.size (fun _ => True) u23 x23_4) ∧ ba_ (Kd.R (Kd.int .i64) 83 w' w.heap.size (fun _ => True) (.slice Ao71 t137.length co71) t137) ∧ ba_ (Below w.heap.size w w'))
                   case atStart => exact ⟨(1), (0), (by first | rfl | (simp; done) | (simp [*]; done)), (by first | rfl | (simp; done) | (simp [*]; done)), H', ⟨Nat.le_refl _⟩, ⟨by (try simp only [hl13_2]); (with_reducible repeat (first | apply Kd.ta_ | apply Kd.ua_ | apply Kd.db_)); exact HO_21.out⟩, ⟨by (try simp only [hl13_2]); (with_reducible repeat (first | apply Kd.ta_ | apply Kd.ua_ | apply Kd.db_)); exact HO_23.out⟩, ⟨by (try simp only [hl13_2]); (with_reducible repeat (first | apply Kd.ta_ | apply Kd.ua_ | apply Kd.db_)); exact HO_21.out⟩, ⟨by repeat (first | (with_reducible first | exact HB.out | apply da_ | apply aa_ | apply ca_) | exact HB.out)⟩⟩
                   case round =>
                    clear H'
                    try clear c1
                    try clear p1
                    try clear q1
                    try clear hx1
                    try clear c2
                    try clear p2
                    try clear q2
                    try clear hx2
                    try clear c3
                    try clear c4
                    try clear p4
                    try clear q4
                    try clear hx4
                    try clear hf4
                    try clear c5
                    try clear c6
                    try clear c6b0
                    try clear p6
                    try clear c7
                    try clear c7b0
                    try clear c8
                    try clear c8b0
                    try clear c9
                    try clear p10
                    try clear q10
                    try clear hx10
                    try clear c12
                    try clear c12b0
                    try clear p12
                    try clear q12
                    try clear hx12
                    try clear c13
                    try clear c13b0
                    try clear p13
                    try clear q13
                    try clear hx13
                    try clear c14
                    try clear c14b0
                    try clear p14
                    try clear q14
                    try clear hx14
                    try clear c16
                    try clear c16b0
                    try clear c17
                    try clear c17b0
                    try clear p21
                    try clear q21
                    try clear hx21
                    try clear hf21
                    try clear c26
                    try clear c26b0
                    try clear c26b1
                    try clear c27
                    try clear c27b0
                    try clear c27b1
                    try clear c32
                    try clear c32b0
                    try clear c34
                    try clear c34b0
                    try clear c35
                    try clear c35b0
                    try clear c36
                    try clear c36b0
                    try clear c37
                    try clear c37b0
                    try clear c38
                    try clear c38b0
                    try clear c40
                    try clear c40b0
                    try clear c41
                    try clear c41b0
                    try clear p44
                    try clear q44
                    try clear hx44
                    try clear hf44
                    try clear c48
                    try clear c48b0
                    try clear c48b1
                    try clear c49
                    try clear c49b0
                    try clear c50
                    try clear c50b0
                    try clear c52
                    try clear c52b0
                    try clear c53
                    try clear c53b0
                    try clear c54
                    try clear c55
                    try clear c57
                    try clear c57b0
                    try clear c58
                    try clear c58b0
                    try clear c59
                    try clear c60
                    try clear p64
                    try clear c65
                    try clear c66
                    try clear c68
                    try clear c68b0
                    try clear c69
                    try clear c69b0
                    try clear c70
                    try clear c70b0
                    try clear hx104_0
                    try clear hx108_0
                    try clear hx109_0
                    try clear hx120_0
                    try clear hx121_0
                    try clear hx122_0
                    try clear hx126_0
                    try clear hx130_0
                    try clear hx141_0
                    try clear hx21_0
                    try clear hx44_0
                    try clear p1
                    try clear p10
                    try clear p104
                    try clear p108
                    try clear p109
                    try clear p12
                    try clear p120
                    try clear p121
                    try clear p122
                    try clear p126
                    try clear p13
                    try clear p130
                    try clear p141
                    try clear p2
                    try clear p21
                    try clear p4
                    try clear p44
                    try clear p6
                    try clear p64
                    try clear q1
                    try clear q10
                    try clear q104
                    try clear q108
                    try clear q109
                    try clear q12
                    try clear q120
                    try clear q121
                    try clear q122
                    try clear q126
                    try clear q13
                    try clear q130
                    try clear q141
                    try clear q2
                    try clear q21
                    try clear q4
                    try clear q44
                    obtain ⟨x26_5, x156_5, rfl, rfl, HA, HK5, HO_21, HO_23, HO_154, HB⟩ := hrel
                    cases gk with
                    | zero => exact absurd HA.out (by simp [fa_.l7])
                    | succ k5 =>
                     have H := HA.out
                     clear HA
                     simp only [fa_.l7] at H
                     by_cases c72 : x156_5 < (t137.length : Int)
                     ·rw [if_pos c72] at H
                      have c72b0 : decide (x156_5 < (t137.length : Int)) = true := decide_eq_true c72
                      clear c72
                      by_cases c73 : 0 ≤ x156_5
                      ·rw [if_pos c73] at H
                       have c73b0 : decide (0 ≤ x156_5) = true := decide_eq_true c73
                       clear c73
                       by_cases c74 : x156_5 < (t137.length : Int)
                       ·rw [if_pos c74] at H
                        have c74b0 : decide (x156_5 < (t137.length : Int)) = true := decide_eq_true c74
                        clear c74
                        replace H := Option.bind_eq_some_iff.mp H
                        obtain ⟨t143, A750, H⟩ := H
                        replace H : ((ie_.f (rd t137 x156_5) t143).bind fun t144 => ((qe_.f x26_5 t144).bind fun t145 => (fa_.l7 k5 l0 a2 t137 x23_4 x149_4 (rd l0 x149_4) t145 l0 (l0.length : Int) x149_4 t137 (t137.length : Int) (wrap64 (x156_5 + 1))))) = some (r1, r2) := H
                        have A75 := ba_.mk A750
                        clear A750
                        replace H := Option.bind_eq_some_iff.mp H
                        obtain ⟨t144, A760, H⟩ := H
                        replace H : ((qe_.f x26_5 t144).bind fun t145 => (fa_.l7 k5 l0 a2 t137 x23_4 x149_4 (rd l0 x149_4) t145 l0 (l0.length : Int) x149_4 t137 (t137.length : Int) (wrap64 (x156_5 + 1)))) = some (r1, r2) := H
                        have A76 := ba_.mk A760
                        clear A760
                        replace H := Option.bind_eq_some_iff.mp H
                        obtain ⟨t145, A770, H⟩ := H
                        replace H : (fa_.l7 k5 l0 a2 t137 x23_4 x149_4 (rd l0 x149_4) t145 l0 (l0.length : Int) x149_4 t137 (t137.length : Int) (wrap64 (x156_5 + 1))) = some (r1, r2) := H
                        have A77 := ba_.mk A770
                        clear A770
                        have H' := ba_.mk H
                        clear H
                        have p142 : 0 ≤ (x156_5 : Int) := of_decide_eq_true (by first | (with_reducible assumption) | assumption)
                        have q142 : x156_5 < (t137.length : Int) := of_decide_eq_true (by first | (with_reducible assumption) | assumption)
                        obtain ⟨ad142, e142, hx142_0⟩ := Kd.id_ (Kd.lb_ HO_154.out).2.2 x156_5 p142 q142
                        cases e142
                        replace p142 := eq_true p142
                        replace q142 := eq_true q142
                        go_wp2_with (first | ((with_reducible refine la_ (f := 54) rfl ?_); refine wb_ (some 168) rfl rfl Tryd.func54 (by kernel_rfl) rfl #[.slice (some ad141) l0.length c0, .int .i64 x149_4, .int .i64 (wrap64 ((wrap64 (-x156_5)) - 1))] rfl (by (try simp only [List.map_toArray, List.map_cons, List.map_nil]); first | done | rfl | (simp only [List.length_drop, List.length_take]; rfl)) ?_; (with_reducible refine (g_at.calls _ _ l0 x149_4 (wrap64 ((wrap64 (-x156_5)) - 1)) t143 _ ?side1 ?side2 A75.out).mono ?_); (case side1 => repeat (first | exact (Kd.rd_ HR0.out HB.out) | (with_reducible refine Kd.zc_ ?_ _) | (with_reducible refine Kd.ad_ ?_ _) | (with_reducible refine Kd.md_ ?_))); (case side2 => exact HC0.out); rintro e w' ⟨rfl, ⟨nd, rfl⟩⟩; refine ⟨_, rfl, ?_⟩) | ((with_reducible refine la_ (f := 66) rfl ?_); refine wb_ (some 169) rfl rfl Tryd.func66 (by kernel_rfl) rfl #[.int .i64 (rd t137 x156_5), .int .i64 t143] rfl (by (try simp only [List.map_toArray, List.map_cons, List.map_nil]); first | done | rfl | (simp only [List.length_drop, List.length_take]; rfl)) ?_; (with_reducible refine (ie_.calls (rd t137 x156_5) t143 t144 _ A76.out).mono ?_); rintro e w' ⟨rfl, ⟨nd, rfl⟩⟩; refine ⟨_, rfl, ?_⟩) | ((with_reducible refine la_ (f := 65) rfl ?_); refine wb_ (some 170) rfl rfl Tryd.func65 (by kernel_rfl) rfl #[.int .i64 x26_5, .int .i64 t144] rfl (by (try simp only [List.map_toArray, List.map_cons, List.map_nil]); first | done | rfl | (simp only [List.length_drop, List.length_take]; rfl)) ?_; (with_reducible refine (qe_.calls x26_5 t144 t145 _ A77.out).mono ?_); rintro e w' ⟨rfl, ⟨nd, rfl⟩⟩; refine ⟨_, rfl, ?_⟩))
                        go_roundg k5
                        case measure => have := HK1.out; have := HK2.out; have := HK3.out; have := HK4.out; have := HK5.out; omega
                        case rel => exact ⟨(t145), (wrap64 (x156_5 + 1)), (by first | rfl | (simp; done) | (simp [*]; done)), (by first | rfl | (simp; done) | (simp [*]; done)), H', ⟨by have := HK1.out; have := HK2.out; have := HK3.out; have := HK4.out; have := HK5.out; omega⟩, ⟨by (try simp only [hl13_2]); (with_reducible repeat (first | apply Kd.ta_ | apply Kd.ua_ | apply Kd.db_)); exact HO_21.out⟩, ⟨by (try simp only [hl13_2]); (with_reducible repeat (first | apply Kd.ta_ | apply Kd.ua_ | apply Kd.db_)); exact HO_23.out⟩, ⟨by (try simp only [hl13_2]); (with_reducible repeat (first | apply Kd.ta_ | apply Kd.ua_ | apply Kd.db_)); exact HO_154.out⟩, ⟨by repeat (first | (with_reducible first | exact HB.out | apply da_ | apply aa_ | apply ca_) | exact HB.out)⟩⟩
                       ·rw [if_neg c74] at H
                        exact absurd H (by simp)
                      ·rw [if_neg c73] at H
                       exact absurd H (by simp)
                     ·rw [if_neg c72] at H
                      have c72b0 : decide (x156_5 < (t137.length : Int)) = false := decide_eq_false c72
                      clear c72
                      by_cases c78 : (rd l0 x149_4) = (-1)
                      ·rw [if_pos c78] at H
                       have c78b0 : ((rd l0 x149_4) == (-1)) = true := beq_iff_eq.mpr c78
                       have c78b1 : ((rd l0 x149_4) != (-1)) = false := bne_eq_false_iff_eq.mpr c78
                       clear c78
                       have H' := ba_.mk H
                       clear H
                       go_wp2
                       go_roundg k5
                       case measure => have := HK1.out; have := HK2.out; have := HK3.out; have := HK4.out; have := HK5.out; omega
                       case rel => exact ⟨(x23_4), (wrap64 (x149_4 + 1)), (by first | rfl | (simp; done) | (simp [*]; done)), H', ⟨by have := HK1.out; have := HK2.out; have := HK3.out; have := HK4.out; have := HK5.out; omega⟩, ⟨by (try simp only [hl13_2]); (with_reducible repeat (first | apply Kd.ta_ | apply Kd.ua_ | apply Kd.db_)); exact HO_21.out⟩, ⟨by (try simp only [hl13_2]); (with_reducible repeat (first | apply Kd.ta_ | apply Kd.ua_ | apply Kd.db_)); exact HO_23.out⟩, ⟨by repeat (first | (with_reducible first | exact HB.out | apply da_ | apply aa_ | apply ca_) | exact HB.out)⟩⟩
                      ·rw [if_neg c78] at H
                       have c78b0 : ((rd l0 x149_4) == (-1)) = false := beq_eq_false_iff_ne.mpr c78
                       have c78b1 : ((rd l0 x149_4) != (-1)) = true := bne_iff_ne.mpr c78
                       by_cases c79 : x26_5 = 0
                       ·rw [if_pos c79] at H
                        have c79b0 : (x26_5 == 0) = true := beq_iff_eq.mpr c79
                        have c79b1 : (x26_5 != 0) = false := bne_eq_false_iff_eq.mpr c79
                        clear c79
                        by_cases c80 : x23_4.length < 17592186044416
                        ·rw [if_pos c80] at H
                         have LMc80 := ba_.mk c80
                         clear c80
                         obtain ⟨y146, hy146⟩ : ∃ y_ : List Int, y_ = (x23_4 ++ [x149_4]) := ⟨_, rfl⟩
                         replace H : (fa_.l6 k5 l0 a2 t137 y146 l0 (l0.length : Int) (wrap64 (x149_4 + 1))) = some (r1, r2) := by first | (rw [hy146]; with_reducible exact H) | (have H2_ := (Option.bind_some _ _).symm.trans H; rw [hy146]; with_reducible exact H2_) | (have H2_ := (Option.bind_some _ _).symm.trans H; with_reducible exact H2_) | with_reducible exact H | (rw [hy146]; exact H) | exact H
                         have Ny146 := ba_.mk hy146
                         clear hy146
                         have H' := ba_.mk H
                         clear H
                         go_wp2_with (first | ((with_reducible refine pd_ (b := .append) (xs := #[.tmp 178, .tmp 180]) rfl ?_); at_builtin; refine Kd.af_ (Kd.int .i64) (w0 := w) w.heap.size rfl (.tmp 178) (.tmp 180) 22 3 (.int .i64 0) 8 rfl Tryd.underlying22 ii_ rfl (by decide) (by omega) u23 x23_4 x149_4 [.int .i64 x149_4] (fun _ => True) (fun _ => False) rfl rfl ?aP (fun _ hk => hk.elim) ?aF ?aO ?aB ?aS ?aL ?_; (case aP => exact rfl); (case aB => exact (by repeat (first | (with_reducible first | exact HB.out | apply da_ | apply aa_ | apply ca_) | exact HB.out))); (case aF => exact (fun _ _ => trivial)); (case aO => exact (by (with_reducible repeat (first | apply Kd.ta_ | apply Kd.ua_ | apply Kd.db_)); exact HO_23.out)); (case aS => exact (wa_ (by repeat (first | (with_reducible first | exact HB.out | apply da_ | apply aa_ | apply ca_) | exact HB.out)))); (case aL => have := LMc80.out; omega); intro v147 w81 ho hb hg hat; rw [← Ny146.out] at ho; have n0_ := ba_.mk (Kd.jl_ (by (with_reducible repeat (first | apply Kd.ta_ | apply Kd.ua_ | apply Kd.db_)); exact HO_21.out) (Kd.ll_ (by (with_reducible repeat (first | apply Kd.ta_ | apply Kd.ua_ | apply Kd.db_)); exact HO_23.out)) (by decide) hg); have n1_ := ba_.mk (Kd.jl_ (by (with_reducible repeat (first | apply Kd.ta_ | apply Kd.ua_ | apply Kd.db_)); exact HO_154.out) (Kd.ll_ (by (with_reducible repeat (first | apply Kd.ta_ | apply Kd.ua_ | apply Kd.db_)); exact HO_23.out)) (by decide) hg); have n2_ := ba_.mk (hb); have n3_ := ba_.mk (ho); clear HO_21; clear HO_154; clear HB; clear HO_23; have HO_21 := n0_; have HO_154 := n1_; have HB := n2_; have HO148 := n3_; clear n0_ n1_ n2_ n3_; clear ho hb hg hat))
                         go_roundg k5
                         case measure => have := HK1.out; have := HK2.out; have := HK3.out; have := HK4.out; have := HK5.out; omega
                         case rel => exact ⟨(y146), (wrap64 (x149_4 + 1)), (by first | rfl | (simp; done) | (simp [*]; done)), H', ⟨by have := HK1.out; have := HK2.out; have := HK3.out; have := HK4.out; have := HK5.out; omega⟩, ⟨by (try simp only [hl13_2]); (with_reducible repeat (first | apply Kd.ta_ | apply Kd.ua_ | apply Kd.db_)); exact HO_21.out⟩, ⟨by (try simp only [hl13_2]); (with_reducible repeat (first | apply Kd.ta_ | apply Kd.ua_ | apply Kd.db_)); exact HO148.out⟩, ⟨by repeat (first | (with_reducible first | exact HB.out | apply da_ | apply aa_ | apply ca_) | exact HB.out)⟩⟩
                        ·rw [if_neg c80] at H
                         exact absurd H (by simp)
                       ·rw [if_neg c79] at H
                        have c79b0 : (x26_5 == 0) = false := beq_eq_false_iff_ne.mpr c79
                        have c79b1 : (x26_5 != 0) = true := bne_iff_ne.mpr c79
                        have H' := ba_.mk H
                        clear H
                        go_wp2
                        go_roundg k5
                        case measure => have := HK1.out; have := HK2.out; have := HK3.out; have := HK4.out; have := HK5.out; omega
                        case rel => exact ⟨(x23_4), (wrap64 (x149_4 + 1)), (by first | rfl | (simp; done) | (simp [*]; done)), H', ⟨by have := HK1.out; have := HK2.out; have := HK3.out; have := HK4.out; have := HK5.out; omega⟩, ⟨by (try simp only [hl13_2]); (with_reducible repeat (first | apply Kd.ta_ | apply Kd.ua_ | apply Kd.db_)); exact HO_21.out⟩, ⟨by (try simp only [hl13_2]); (with_reducible repeat (first | apply Kd.ta_ | apply Kd.ua_ | apply Kd.db_)); exact HO_23.out⟩, ⟨by repeat (first | (with_reducible first | exact HB.out | apply da_ | apply aa_ | apply ca_) | exact HB.out)⟩⟩
                  ·rw [if_neg c70] at H
                   exact absurd H (by simp)
                 ·rw [if_neg c69] at H
                  exact absurd H (by simp)
                ·rw [if_neg c68] at H
                 have c68b0 : decide (x149_4 < (l0.length : Int)) = false := decide_eq_false c68
                 clear c68
                 simp only [Option.some.injEq, Prod.mk.injEq] at H
                 obtain ⟨rfl, rfl⟩ := H
                 obtain ⟨Ao82, co82, eo82⟩ := Kd.nc_ HO_23.out
                 subst eo82
                 go_wp2
                 go_ret2
                 exact ⟨_, by first | rfl | (simp [xa_, ya_] <;> rfl) | (simp only [← hji25]; first | rfl | (simp [xa_, ya_] <;> rfl)) | (simp [*, xa_, ya_] <;> rfl), by (with_reducible repeat (first | apply Kd.ta_ | apply Kd.ua_ | apply Kd.db_)); exact HO_23.out, by repeat (first | (with_reducible first | exact HB.out | apply da_ | apply aa_ | apply ca_) | exact HB.out)⟩
             ·replace c65 := Bool.eq_false_iff.mpr c65
              subst c65
              have H1 : (some (([] : List Int), false)) = some (r1, r2) := by rw [if_neg (show ¬ (false = true) by decide)] at H; exact H
              clear H
              have H := H1
              clear H1
              simp only [Option.some.injEq, Prod.mk.injEq] at H
              obtain ⟨rfl, rfl⟩ := H
              obtain ⟨Ao83, co83, eo83⟩ := Kd.tj_ HO_17.out
              subst eo83
              go_wp2_with (first | ((with_reducible refine la_ (f := 55) rfl ?_); refine wb_ (some 142) rfl rfl Tryd.func55 (by kernel_rfl) rfl #[.slice Ao83 x17_3.length co83] rfl (by (try simp only [List.map_toArray, List.map_cons, List.map_nil]); first | done | rfl | (simp only [List.length_drop, List.length_take]; rfl)) ?_; (refine (uf_.calls w.heap.size _ _ _ x17_3 t137 false _ HO_17.out (wa_ HB.out) A64.out).mono ?_); rintro e w84 ⟨v139, rfl, ho0, hb⟩; refine ⟨_, rfl, ?_⟩; have n2_ := ba_.mk (Kd.wc_ (Kd.yd_ ho0 (Kd.R_lt (by (with_reducible repeat (first | apply Kd.ta_ | apply Kd.ua_ | apply Kd.db_)); exact HO_13.out))) (wa_ (by repeat (first | (with_reducible first | exact HB.out | apply da_ | apply aa_ | apply ca_) | exact HB.out)))); have n3_ := ba_.mk (HB.out.trans hb); clear HB; have HO140 := n2_; have HB := n3_; clear n2_ n3_; (try clear hb); (try clear hb2); (try clear hk); (try clear hi); (try clear ho0)))
              go_ret2
              exact ⟨_, by first | rfl | (simp [xa_, ya_] <;> rfl) | (simp only [← hji25]; first | rfl | (simp [xa_, ya_] <;> rfl)) | (simp [*, xa_, ya_] <;> rfl), by first | exact Kd.ue_ _ _ _ _ _ | exact Kd.qg_ _ _ _ _ _ | exact Kd.ug_ _ _ _ _ _ | exact Kd.rg_ _ _ _ _ _ | exact Kd.tg_ _ _ _ _ _, by repeat (first | (with_reducible first | exact HB.out | apply da_ | apply aa_ | apply ca_) | exact HB.out)⟩
     ·rw [if_neg c27] at H
      exact absurd H (by simp)
    ·rw [if_neg c26] at H
     exact absurd H (by simp)
end Go.Proofs.YtpkhgapifnjbeaaDoor.L
end
section
namespace Go.Proofs.YtpkhgapifnjbeaaDoor.L
open Go.RowKit Go.Proofs.YtpkhgapifnjbeaaDoor.G Go.Proofs.YtpkhgapifnjbeaaDoorW.PrintWords Go.Proofs.YtpkhgapifnjbeaaDoorW.PrintLast Go.Proofs.YtpkhgapifnjbeaaDoorW.PrintMore
attribute [local go_sem] qc_ sc_ cd_ dd_ jc_ kc_ rc_ tc_
set_option linter.unusedVariables false
set_option linter.unusedSimpArgs false
def ac_.f (a0 : Int) : Option (Int) := if (wrap64 (a0 * 2)) ≥ 32 then (some (Go.bits .xor .i64 (wrap64 (a0 * 2)) 37)) else (some (wrap64 (a0 * 2)))
set_option maxHeartbeats 8000000 in
set_option maxRecDepth 100000 in
theorem ac_.calls (a0 : Int) (r : Int) (w : World) (h : ac_.f a0 = some r) :
  Calls Tryd.prog 82 #[.int .i64 a0] w fun e w' => e = .returned (.int .i64 r) ∧ gb_ w w' := by
 have H : (if (wrap64 (a0 * 2)) ≥ 32 then (some (Go.bits .xor .i64 (wrap64 (a0 * 2)) 37)) else (some (wrap64 (a0 * 2)))) = some r := h
 clear h
 by_cases c2 : (wrap64 (a0 * 2)) ≥ 32
 ·rw [if_pos c2] at H
  have c2b0 : decide (32 ≤ (wrap64 (a0 * 2))) = true := decide_eq_true c2
  clear c2
  obtain rfl := Option.some.inj H
  go_enter Tryd.func82, Tryd.ntmps82
  go_wp2
  go_ret
  exact ⟨by first | rfl | (simp; done) | (simp [*]; done), by repeat (first | exact gb_.refl _ | apply gb_.step)⟩
 ·rw [if_neg c2] at H
  have c2b0 : decide (32 ≤ (wrap64 (a0 * 2))) = false := decide_eq_false c2
  clear c2
  obtain rfl := Option.some.inj H
  go_enter Tryd.func82, Tryd.ntmps82
  go_wp2
  go_ret
  exact ⟨by first | rfl | (simp; done) | (simp [*]; done), by repeat (first | exact gb_.refl _ | apply gb_.step)⟩
end Go.Proofs.YtpkhgapifnjbeaaDoor.L
end
section
namespace Go.Proofs.YtpkhgapifnjbeaaDoor.L
open Go.RowKit Go.Proofs.YtpkhgapifnjbeaaDoor.G Go.Proofs.YtpkhgapifnjbeaaDoorW.PrintWords Go.Proofs.YtpkhgapifnjbeaaDoorW.PrintLast Go.Proofs.YtpkhgapifnjbeaaDoorW.PrintMore
attribute [local go_sem] qc_ sc_ cd_ dd_ jc_ kc_ rc_ tc_
set_option linter.unusedVariables false
set_option linter.unusedSimpArgs false
end Go.Proofs.YtpkhgapifnjbeaaDoor.L
end
section
namespace Go.Proofs.YtpkhgapifnjbeaaDoor.K
open Go.RowKit Go.Proofs.YtpkhgapifnjbeaaDoor.G Go.Proofs.YtpkhgapifnjbeaaDoorW.PrintWords Go.Proofs.YtpkhgapifnjbeaaDoorW.PrintLast Go.Proofs.YtpkhgapifnjbeaaDoorW.PrintMore
attribute [local go_sem] qc_ sc_ cd_ dd_ jc_ kc_ rc_ tc_
set_option linter.unusedVariables false
set_option linter.unusedSimpArgs false
def errW : Option Int → Value
 | none => .nilIface
 | some c => .iface 0 (.int .i64 c)
theorem xa_ : errW none = .nilIface := rfl
theorem ya_ (c : Int) : errW (some c) = .iface 0 (.int .i64 c) := rfl
def ke_ (xs : List (List Int)) (i : Int) : (List Int) := xs.getD i.toNat ([] : List Int)
theorem bo_ {w : World} {A : Option Addr} {n : Nat} {xs : List (List Int)} (h : Kd.C (Kd.slice 3 (Kd.int .i64)) w A n xs) (i : Int) (h0 : 0 ≤ i) (h1 : i < n) : ∃ ad A0 c0, A = some ad ∧ w.cell? (ad.add i.toNat) = some (.slice A0 (ke_ xs i).length c0) ∧ (ke_ xs i).length ≤ c0 ∧ (Kd.int .i64).C w A0 (ke_ xs i).length (ke_ xs i) := by
 obtain ⟨ad, c, e, _, hK, hc0⟩ := Kd.eh_ h ([] : List Int) i h0 h1
 have hc : ∀ j u, c[j]? = some u → w.cell? (ad.add (i.toNat * 1 + j)) = some u := hc0
 obtain ⟨A0, c0, rfl, l0, g0⟩ := hK
 exact ⟨ad, A0, c0, e, by have hq := hc 0 _ rfl; rwa [Nat.mul_one, Nat.add_zero] at hq, l0, g0⟩
end Go.Proofs.YtpkhgapifnjbeaaDoor.K
end
section
namespace Go.Proofs.YtpkhgapifnjbeaaDoor.K
open Go.RowKit Go.Proofs.YtpkhgapifnjbeaaDoor.G Go.Proofs.YtpkhgapifnjbeaaDoorW.PrintWords Go.Proofs.YtpkhgapifnjbeaaDoorW.PrintLast Go.Proofs.YtpkhgapifnjbeaaDoorW.PrintMore
attribute [local go_sem] qc_ sc_ cd_ dd_ jc_ kc_ rc_ tc_
set_option linter.unusedVariables false
set_option linter.unusedSimpArgs false
def lf_.f (a0 : Int) (a1 : Int) : Option (Int × Int) := some (IntKind.u64.wrap ((IntKind.u64.wrap ((IntKind.u64.wrap ((a0 / 4294967296) * (a1 / 4294967296))) + ((IntKind.u64.wrap ((IntKind.u64.wrap ((a0 / 4294967296) * (Go.bits .and .u64 a1 4294967295))) + ((IntKind.u64.wrap ((Go.bits .and .u64 a0 4294967295) * (Go.bits .and .u64 a1 4294967295))) / 4294967296))) / 4294967296))) + ((IntKind.u64.wrap ((Go.bits .and .u64 (IntKind.u64.wrap ((IntKind.u64.wrap ((a0 / 4294967296) * (Go.bits .and .u64 a1 4294967295))) + ((IntKind.u64.wrap ((Go.bits .and .u64 a0 4294967295) * (Go.bits .and .u64 a1 4294967295))) / 4294967296))) 4294967295) + (IntKind.u64.wrap ((Go.bits .and .u64 a0 4294967295) * (a1 / 4294967296))))) / 4294967296)), IntKind.u64.wrap (a0 * a1))
set_option maxHeartbeats 8000000 in
set_option maxRecDepth 100000 in
theorem lf_.calls (a0 : Int) (a1 : Int) (r1 : Int) (r2 : Int) (w : World) (h : lf_.f a0 a1 = some (r1, r2)) :
  Calls Tryd.prog 59 #[.int .u64 a0, .int .u64 a1] w fun e w' => e = .returned (.tuple #[.int .u64 r1, .int .u64 r2]) ∧ gb_ w w' := by
 have H : (some (IntKind.u64.wrap ((IntKind.u64.wrap ((IntKind.u64.wrap ((a0 / 4294967296) * (a1 / 4294967296))) + ((IntKind.u64.wrap ((IntKind.u64.wrap ((a0 / 4294967296) * (Go.bits .and .u64 a1 4294967295))) + ((IntKind.u64.wrap ((Go.bits .and .u64 a0 4294967295) * (Go.bits .and .u64 a1 4294967295))) / 4294967296))) / 4294967296))) + ((IntKind.u64.wrap ((Go.bits .and .u64 (IntKind.u64.wrap ((IntKind.u64.wrap ((a0 / 4294967296) * (Go.bits .and .u64 a1 4294967295))) + ((IntKind.u64.wrap ((Go.bits .and .u64 a0 4294967295) * (Go.bits .and .u64 a1 4294967295))) / 4294967296))) 4294967295) + (IntKind.u64.wrap ((Go.bits .and .u64 a0 4294967295) * (a1 / 4294967296))))) / 4294967296)), IntKind.u64.wrap (a0 * a1))) = some (r1, r2) := h
 clear h
 simp only [Option.some.injEq, Prod.mk.injEq] at H
 obtain ⟨rfl, rfl⟩ := H
 go_enter Tryd.func59, Tryd.ntmps59
 go_wp2
 go_ret2
 exact ⟨by first | rfl | (simp; done) | (simp [*]; done), by repeat (first | exact gb_.refl _ | apply gb_.step)⟩
def uj_.f (a0 : Int) (a1 : Int) : Option (Int × Int) := (lf_.f a0 a1).bind fun bt102 => (some (bt102.1, bt102.2))
set_option maxHeartbeats 8000000 in
set_option maxRecDepth 100000 in
theorem uj_.calls (a0 : Int) (a1 : Int) (r1 : Int) (r2 : Int) (w : World) (h : uj_.f a0 a1 = some (r1, r2)) :
  Calls Tryd.prog 42 #[.int .u64 a0, .int .u64 a1] w fun e w' => e = .returned (.tuple #[.int .u64 r1, .int .u64 r2]) ∧ gb_ w w' := by
 have H : ((lf_.f a0 a1).bind fun bt102 => (some (bt102.1, bt102.2))) = some (r1, r2) := h
 clear h
 replace H := Option.bind_eq_some_iff.mp H
 obtain ⟨⟨t102, t103⟩, A30, H⟩ := H
 replace H : (some (t102, t103)) = some (r1, r2) := H
 have A3 := ba_.mk A30
 clear A30
 simp only [Option.some.injEq, Prod.mk.injEq] at H
 obtain ⟨rfl, rfl⟩ := H
 go_enter Tryd.func42, Tryd.ntmps42
 go_wp2_with (first | ((with_reducible refine la_ (f := 59) rfl ?_); refine wb_ (some 25) rfl rfl Tryd.func59 (by kernel_rfl) rfl #[.int .u64 a0, .int .u64 a1] rfl (by (try simp only [List.map_toArray, List.map_cons, List.map_nil]); first | done | rfl | (simp only [List.length_drop, List.length_take]; rfl)) ?_; (with_reducible refine (lf_.calls a0 a1 t102 t103 _ A3.out).mono ?_); rintro e w' ⟨rfl, ⟨nd, rfl⟩⟩; refine ⟨_, rfl, ?_⟩))
 go_ret2
 exact ⟨by first | rfl | (simp; done) | (simp [*]; done), by repeat (first | exact gb_.refl _ | apply gb_.step)⟩
def ac_.f (a0 : Int) : Option (Int) := if (wrap64 (a0 * 2)) ≥ 32 then (some (Go.bits .xor .i64 (wrap64 (a0 * 2)) 37)) else (some (wrap64 (a0 * 2)))
set_option maxHeartbeats 8000000 in
set_option maxRecDepth 100000 in
theorem ac_.calls (a0 : Int) (r : Int) (w : World) (h : ac_.f a0 = some r) :
  Calls Tryd.prog 82 #[.int .i64 a0] w fun e w' => e = .returned (.int .i64 r) ∧ gb_ w w' := by
 have H : (if (wrap64 (a0 * 2)) ≥ 32 then (some (Go.bits .xor .i64 (wrap64 (a0 * 2)) 37)) else (some (wrap64 (a0 * 2)))) = some r := h
 clear h
 by_cases c2 : (wrap64 (a0 * 2)) ≥ 32
 ·rw [if_pos c2] at H
  have c2b0 : decide (32 ≤ (wrap64 (a0 * 2))) = true := decide_eq_true c2
  clear c2
  obtain rfl := Option.some.inj H
  go_enter Tryd.func82, Tryd.ntmps82
  go_wp2
  go_ret
  exact ⟨by first | rfl | (simp; done) | (simp [*]; done), by repeat (first | exact gb_.refl _ | apply gb_.step)⟩
 ·rw [if_neg c2] at H
  have c2b0 : decide (32 ≤ (wrap64 (a0 * 2))) = false := decide_eq_false c2
  clear c2
  obtain rfl := Option.some.inj H
  go_enter Tryd.func82, Tryd.ntmps82
  go_wp2
  go_ret
  exact ⟨by first | rfl | (simp; done) | (simp [*]; done), by repeat (first | exact gb_.refl _ | apply gb_.step)⟩
end Go.Proofs.YtpkhgapifnjbeaaDoor.K
end
section
namespace Go.Proofs.YtpkhgapifnjbeaaDoor.K
open Go.RowKit Go.Proofs.YtpkhgapifnjbeaaDoor.G Go.Proofs.YtpkhgapifnjbeaaDoorW.PrintWords Go.Proofs.YtpkhgapifnjbeaaDoorW.PrintLast Go.Proofs.YtpkhgapifnjbeaaDoorW.PrintMore
attribute [local go_sem] qc_ sc_ cd_ dd_ jc_ kc_ rc_ tc_
set_option linter.unusedVariables false
set_option linter.unusedSimpArgs false
end Go.Proofs.YtpkhgapifnjbeaaDoor.K
end
section
namespace Go.Proofs.YtpkhgapifnjbeaaDoor.G
set_option linter.unusedVariables false
set_option linter.unusedSimpArgs false
open Go.RowKit Go.Proofs.YtpkhgapifnjbeaaDoorW.PrintWords Go.Proofs.YtpkhgapifnjbeaaDoorW.PrintLast Go.Proofs.YtpkhgapifnjbeaaDoorW.PrintMore Go.Proofs.YtpkhgapifnjbeaaDoor.Rs
theorem M_int0 (W : World) (base : Nat) : (Kd.int .i64).M W base (fun _ => False) (0 : Int) (Value.cells (.int .i64 0)).toList := rfl
set_option maxHeartbeats 4000000 in
set_option maxRecDepth 100000 in
theorem oo_ (n : Nat) (h1 : 1 ≤ n) (hn : n ≤ 1000) (w : World) :
  Calls Tryd.prog 50 #[.slice none 0 0, .int .i64 n] w fun e w' => ∃ v : Value, e = .returned v ∧ Kd.R (Kd.int .i64) 3 w' w.heap.size (fun _ => True) v [] ∧ Below w.heap.size w w' := by
 have hw : wrap64 ((n : Int) - wrap64 ((0 : Int) - 0)) = (n : Int) := by unfold wrap64; omega
 have hw0 : wrap64 ((0 : Int) - 0) = (0 : Int) := by unfold wrap64; omega
 have hw1 : wrap64 ((n : Int) - 0) = (n : Int) := by unfold wrap64; omega
 have hk := Lib.hid hn
 go_enter Tryd.func50, Tryd.ntmps50
 go_wp2_with (first | ((with_reducible refine hc_ (N := 22) rfl ?_); refine Kd.ui_ (Kd.int .i64) w.heap.size rfl _ _ 22 3 3 (.int .i64 0) 8 rfl Tryd.underlying22 (k := .i64) Tryd.underlying3 (by kernel_rfl) rfl (by decide) (by decide) (.slice none 0 0) [] (0 : Int) (n : Int) (fun _ => True) rfl rfl (M_int0 _ _) (fun _ _ => trivial) (Kd.ue_ _ _ _ _ _) (by omega) (Below.refl _ _) (Nat.le_refl _) (by have := hk.out; simp only [List.length_nil, Int.toNat_natCast]; omega) ?_; intro v1 w1 ho hb hg hat; clear hg hat; rw [Int.toNat_natCast] at ho; obtain ⟨go, co, eo, hgo, hgl, _⟩ := Kd.yf_ ho (by simp only [List.nil_append, List.length_replicate]; omega); subst eo; have HO := Lib.hid ho; have HB := Lib.hid hb; clear ho hb))
 go_ret
 exact ⟨_, rfl, Kd.vq_ HO.out (Nat.zero_le _), HB.out⟩
set_option maxHeartbeats 4000000 in
set_option maxRecDepth 100000 in
theorem hn_ (w : World) : Calls Tryd.prog 50 #[.slice none 0 0, .int .i64 (0 : Nat)] w fun e w' => e = .returned (.slice none 0 0) ∧ w = w' := by
 have hw : wrap64 ((0 : Int) - wrap64 ((0 : Int) - 0)) = (0 : Int) := by unfold wrap64; omega
 have hw0 : wrap64 ((0 : Int) - 0) = (0 : Int) := by unfold wrap64; omega
 go_enter Tryd.func50, Tryd.ntmps50
 go_wp2
 go_ret
 exact ⟨rfl, rfl⟩
theorem zp_ (n : Nat) (hn : n ≤ 1000) (w : World) :
  Calls Tryd.prog 50 #[.slice none 0 0, .int .i64 n] w fun e w' => ∃ v : Value, e = .returned v ∧ Kd.R (Kd.int .i64) 3 w' w.heap.size (fun _ => True) v [] ∧ Below w.heap.size w w' := by
 by_cases h1 : 1 ≤ n
 ·exact oo_ n h1 hn w
 ·obtain rfl : n = 0 := by omega
  exact (hn_ w).mono fun e w' ⟨he, hw⟩ => ⟨_, he, Kd.ue_ _ _ _ _ _, hw ▸ Below.refl _ _⟩
def aj_ (a b i : Nat) : Nat := if i = 0 then 0 else if i = 1 then a else a + b
def ri_ (l0 l1 : List Int) (i : Nat) : List Int := if i = 0 then [] else if i = 1 then l0 else l0 ++ l1
set_option maxHeartbeats 4000000 in
set_option maxRecDepth 100000 in
theorem rl_ (b cb : Nat) (A0 : Option Addr) (c0 : Nat) (l0 : List Int) (A1 : Option Addr) (c1 : Nat) (l1 : List Int) (w : World) (hb0 : w.cell? ⟨b, 0, none⟩ = some (.slice A0 l0.length c0)) (hb1 : w.cell? ⟨b, 1, none⟩ = some (.slice A1 l1.length c1))
  (hr0 : Kd.C (Kd.int .i64) w A0 l0.length l0) (hc0 : l0.length ≤ c0) (hr1 : Kd.C (Kd.int .i64) w A1 l1.length l1) (hc1 : l1.length ≤ c1) (hl0 : l0.length ≤ 500) (hl1 : l1.length ≤ 500) :
  Calls Tryd.prog 36 #[.slice (some ⟨b, 0, none⟩) 2 cb] w fun e w' => ∃ v : Value, e = .returned v ∧ Kd.R (Kd.int .i64) 3 w' w.heap.size (fun _ => True) v (l0 ++ l1) ∧ Below w.heap.size w w' := by
 have HR0 := Lib.hid hr0
 have HR1 := Lib.hid hr1
 have HC0 := Lib.hid hc0
 have HC1 := Lib.hid hc1
 clear hr0 hr1 hc0 hc1
 go_enter Tryd.func36, Tryd.ntmps36
 go_wp2
 go_loop [3, 11] (fun v3 v11 => ∃ i : Nat, i ≤ 2 ∧ v11 = .int .i64 i ∧ v3 = .int .i64 (aj_ l0.length l1.length i : Nat)) (fun _ v => 2 - (intOf v).toNat)
 case atStart => exact ⟨0, by omega, rfl, rfl⟩
 case round =>
  obtain ⟨i, hi, rfl, rfl⟩ := hrel
  by_cases hi2 : i < 2
  ·obtain ⟨A, n, c, hcell, hlen, hup⟩ : ∃ (A : Option Addr) (n c : Nat), w.cell? ⟨b, i, none⟩ = some (.slice A n c) ∧ n ≤ 500 ∧ aj_ l0.length l1.length (i + 1) = aj_ l0.length l1.length i + n ∧ aj_ l0.length l1.length i ≤ 500 := by
    rcases (show i = 0 ∨ i = 1 from by omega) with rfl | rfl
    ·exact ⟨A0, l0.length, c0, hb0, hl0, by simp [aj_], by simp [aj_]⟩
    ·exact ⟨A1, l1.length, c1, hb1, hl1, by simp [aj_], by simp [aj_]; omega⟩
   generalize aj_ l0.length l1.length i = s at hup ⊢
   have hw : wrap64 ((s : Int) + (n : Int)) = ((s + n : Nat) : Int) := by unfold wrap64; omega
   have hU := Lib.hid hup.1
   clear hup
   go_wp2
   go_round
   case rel => exact ⟨i + 1, by omega, by go_num, by rw [hU.out]; first | rfl | (rw [← hw]; done) | (simp [hw]; done) | (push_cast; rfl) | trace_state⟩
   case measure => simp [intOf]; omega
  ·obtain rfl : i = 2 := by omega
   have hup : aj_ l0.length l1.length 2 = l0.length + l1.length := rfl
   rw [hup]
   obtain ⟨N, hN⟩ : ∃ N, N = l0.length + l1.length := ⟨_, rfl⟩
   rw [← hN]
   have hk := Lib.hid (show N ≤ 1000 from by omega)
   have hNN := Lib.hid hN
   clear hN hup
   go_wp2_with (first | ((with_reducible refine la_ (f := 50) rfl ?_); refine wb_ (some 24) rfl rfl Tryd.func50 (by kernel_rfl) rfl #[.slice none 0 0, .int .i64 N] rfl (by (try simp only [List.map_toArray, List.map_cons, List.map_nil]); first | done | rfl) ?_; (with_reducible refine (zp_ N hk.out _).mono ?_); rintro e w1 ⟨v1, rfl, ho, hb⟩; refine ⟨_, rfl, ?_⟩; have HO := Lib.hid ho; have HB := Lib.hid hb; clear ho hb))
   go_loopw [6, 27] (fun v6 v27 wr => ∃ i : Nat, i ≤ 2 ∧ v27 = .int .i64 i ∧ Hid (Kd.R (Kd.int .i64) 3 wr w.heap.size (fun _ => True) v6 (ri_ l0 l1 i)) ∧ Hid (Below w.heap.size w wr)) (fun _ v _ => 2 - (intOf v).toNat)
   case atStart => exact ⟨0, by omega, rfl, HO, HB⟩
   case round =>
    clear HO HB
    obtain ⟨i, hi, rfl, HO, HB⟩ := hrel
    by_cases hi2 : i < 2
    ·obtain ⟨A, l, c, hcell, hread, hup, hlen⟩ : ∃ (A : Option Addr) (l : List Int) (c : Nat), wr.cell? ⟨b, i, none⟩ = some (.slice A l.length c) ∧ Hid (Kd.C (Kd.int .i64) wr A l.length l) ∧ Hid (ri_ l0 l1 (i + 1) = ri_ l0 l1 i ++ l) ∧ Hid ((ri_ l0 l1 i).length + l.length ≤ 1000) := by
      have hlt0 := World.block_lt_of_cell? w _ hb0
      have hlt1 := World.block_lt_of_cell? w _ hb1
      rcases (show i = 0 ∨ i = 1 from by omega) with rfl | rfl
      ·exact ⟨A0, l0, c0, (HB.out.cell hlt0).trans hb0, Lib.hid (Kd.rd_ HR0.out HB.out), Lib.hid (by simp [ri_]), Lib.hid (by simp [ri_]; omega)⟩
      ·exact ⟨A1, l1, c1, (HB.out.cell hlt1).trans hb1, Lib.hid (Kd.rd_ HR1.out HB.out), Lib.hid (by simp [ri_]), Lib.hid (by simp [ri_]; omega)⟩
     obtain ⟨Ao, co, eo⟩ := Kd.nc_ HO.out
     subst eo
     go_wp2_with (first | ((with_reducible refine pd_ (b := .append) (xs := #[.tmp 31, .tmp 32]) rfl ?_); at_builtin; refine Kd.sg_ (Kd.int .i64) (w0 := w) w.heap.size rfl (.tmp 31) (.tmp 32) 22 3 (.int .i64 0) 8 rfl Tryd.underlying22 (by kernel_rfl) rfl (by decide) (by omega) (.slice Ao (ri_ l0 l1 i).length co) (ri_ l0 l1 i) l A l.length c (fun _ => True) (fun _ => False) rfl rfl HO.out hread.out (fun _ _ h => h) (fun _ h => h.elim) (fun _ _ => trivial) HB.out (wa_ HB.out) (by have := hlen.out; omega) ?_; intro v2 w2 ho hb hg hat; clear hg hat; have HO1 := Lib.hid (show Kd.R (Kd.int .i64) 3 w2 w.heap.size (fun _ => True) v2 (ri_ l0 l1 (i + 1)) from by rw [hup.out]; exact ho); have HB1 := Lib.hid hb; clear ho hb))
     go_roundw
     case rel => exact ⟨i + 1, by omega, by go_num, HO1, HB1⟩
     case measure => simp [intOf]; omega
    ·obtain rfl : i = 2 := by omega
     go_wp2
     go_ret
     exact ⟨_, rfl, HO.out, HB.out⟩
def repL (x : Int) (k : Nat) : List Value := List.replicate k (.int .i64 x) ++ List.replicate (6 - k) (.int .i64 0)
theorem gm_ (x : Int) (m : Nat) : ∀ v ∈ List.replicate m (Value.int .i64 x), v.oneCell' = true := by
 intro v hv
 rw [(List.mem_replicate.1 hv).2]; rfl
theorem lh_ {cur : List Value} {x : Int} {k cap : Nat} (h : cur.take 6 = repL x k ∧ cur.length = cap) (hk : k ≤ 6 := by decide) : 6 ≤ cur.length := by
 have := congrArg List.length h.1
 simp only [repL, List.length_take, List.length_append, List.length_replicate] at this
 omega
theorem hm_ {w : World} {g t k cap : Nat} {cur : List Value} {x : Int} (hg : w.heap[g]? = some (.cells cur.toArray t (0, 0))) (h : cur.take 6 = repL x k ∧ cur.length = cap) (m : Nat) (hm : m ≤ k ∧ k ≤ 6) : ∀ j v, (List.replicate m (Value.int .i64 x))[j]? = some v → w.cell? ((⟨g, 0, none⟩ : Addr).add j) = some v := by
 intro j v hv
 have hj : j < m := by
  rcases Nat.lt_or_ge j m with h | h
  ·exact h
  ·rw [List.getElem?_eq_none (by simpa using h)] at hv; cases hv
 have h1 : (cur.take 6)[j]? = some (.int .i64 x) := by
  rw [h.1, repL, List.getElem?_append_left (by simp; omega)]
  simp [List.getElem?_replicate]; omega
 rw [List.getElem?_take, if_pos (by omega)] at h1
 have h2 : v = .int .i64 x := by
  rw [List.getElem?_replicate, if_pos hj] at hv; exact (Option.some.inj hv).symm
 have h3 := cell_of_row w g j cur.toArray t (0, 0) hg
 rw [show ((⟨g, 0, none⟩ : Addr).add j) = ⟨g, j, none⟩ from by simp [Addr.add] <;> omega, h3, h2]
 simpa using h1
theorem mh_ {cur L : List Value} (h : cur.take 6 = L) : cur = L ++ cur.drop 6 := by rw [← h, List.take_append_drop]
theorem dp_ {cur : List Value} {x : Int} (h : cur.take 6 = repL x 1) : (splice cur 1 (List.replicate 1 (.int .i64 x))).take 6 = repL x 2 := by
 rw [mh_ h]; rfl
theorem ep_ {cur : List Value} {x : Int} (h : cur.take 6 = repL x 2) : (splice cur 2 (List.replicate 2 (.int .i64 x))).take 6 = repL x 4 := by
 rw [mh_ h]; rfl
theorem fp_ {cur : List Value} {x : Int} (h : cur.take 6 = repL x 4) : (splice cur 4 (List.replicate 2 (.int .i64 x))).take 6 = repL x 6 := by
 rw [mh_ h]; rfl
theorem qn_ {w : World} {base g t cap : Nat} {cur : List Value} {x : Int} (hg : w.heap[g]? = some (.cells cur.toArray t (0, 0))) (h : cur.take 6 = repL x 6 ∧ cur.length = cap) (hcap : 6 ≤ cap) (hmax : cap ≤ maxLen) (hb : base ≤ g) :
  Kd.R (Kd.int .i64) t w base (fun _ => True) (.slice (some ⟨g, 0, none⟩) 6 cap) (List.replicate 6 x) := by
 refine Kd.wh_ ?_ (fun _ _ => trivial)
 refine ⟨by simp [encs], .inr ⟨g, cap, cur.toArray, by simp, hb, hg, ?_, ?_, ?_, ?_⟩⟩
 all_goals first | omega | exact hmax | (simp; omega; done) | (simp; omega) | exact h.1 | (rw [h.1]; rfl) | skip
set_option maxHeartbeats 4000000 in
set_option maxRecDepth 100000 in
theorem im_ (A0 : Option Addr) (c : Nat) (x : Int) (w : World) (hr : Kd.C (Kd.int .i64) w A0 1 [x]) (hc : 1 ≤ c) :
  Calls Tryd.prog 37 #[.slice A0 1 c, .int .i64 6] w fun e w' => ∃ v : Value, e = .returned v ∧ Kd.R (Kd.int .i64) 3 w' w.heap.size (fun _ => True) v (List.replicate 6 x) ∧ Below w.heap.size w w' := by
 have HR := Lib.hid hr
 clear hr
 have hm := @Go.Proofs.YtpkhgapifnjbeaaDoor.K.uj_.calls 1 6 0 6
 have HM := Lib.hid hm
 clear hm
 go_enter Tryd.func37, Tryd.ntmps37
 go_wp2_with (first | ((with_reducible refine la_ (f := 42) rfl ?_); refine wb_ (some 18) rfl rfl Tryd.func42 (by kernel_rfl) rfl #[.int .u64 1, .int .u64 6] rfl (by (try simp only [List.map_toArray, List.map_cons, List.map_nil]); first | done | rfl) ?_; (with_reducible refine (HM.out _ (by decide +kernel)).mono ?_); rintro e w' ⟨rfl, ⟨nd, rfl⟩⟩; refine ⟨_, rfl, ?_⟩) | ((with_reducible refine hc_ (N := 30) rfl ?_); refine Kd.kk_ (Kd.int .i64) w.heap.size 3 rfl (N := 30) rfl 22 _ _ rfl (6 : Int) rfl rfl Tryd.underlying22 (.int .i64 0) 8 (by kernel_rfl) rfl (by decide) (by omega) 0 (ok := fun _ => True) (okp := fun _ => True) rfl (fun _ hk => hk) trivial (by omega) (by omega) (aa_ (Below.refl _ _) nd) (Nat.le_refl _) ?_; intro v1 w1 ho hb hg_ hnew_; clear hg_ hnew_; have HO := Lib.hid ho; have HB := Lib.hid hb; clear ho hb) | ((with_reducible refine hc_ (N := 33) rfl ?_); refine Kd.R_copy (0 : Int) w.heap.size rfl _ _ 22 22 3 rfl Tryd.underlying22 (by kernel_rfl) v1 _ [x] A0 1 c (fun _ => True) rfl rfl HO.out (Kd.rd_ HR.out HB.out) HB.out (wa_ HB.out) ?_; intro w2 ho hb hg_; clear hg_; clear HB HO; have HB := Lib.hid hb; have HO := Lib.hid ho; clear ho hb))
 have ho := HO.out
 rw [show (Int.toNat 6) = 6 from rfl] at ho
 replace ho : Kd.R (Kd.int .i64) 3 w2 w.heap.size (fun _ => True) v1 [x, 0, 0, 0, 0, 0] := ho
 have hown := Kd.zg_ ho
 rcases hown.2 with ⟨_, hx0⟩ | ⟨g, cap, cur, hv, hgb, hg, hnc, hcm, hcs, htake⟩
 ·simp at hx0
 subst hv
 have HGb := Lib.hid hgb
 have HX := Lib.hid hcm
 have hcap0 : 6 ≤ cap := hnc
 have HC := Lib.hid (show ∃ cur : List Value, Hid (w2.heap[g]? = some (.cells cur.toArray 3 (0, 0))) ∧ Hid (cur.take 6 = repL x 1 ∧ cur.length = cap) from ⟨cur.toList, Lib.hid (by simpa using hg), Lib.hid ⟨by first | exact htake | (rw [htake]; rfl), by first | omega | (simp; omega)⟩⟩)
 clear ho HO hown hgb hg hnc hcm hcs htake
 go_loopw [8] (fun v wr => ∃ k : Nat, (k = 1 ∨ k = 2 ∨ k = 4 ∨ k = 6) ∧ v = .int .i64 k ∧ Hid (∃ cur : List Value, Hid (wr.heap[g]? = some (.cells cur.toArray 3 (0, 0))) ∧ Hid (cur.take 6 = repL x k ∧ cur.length = cap)) ∧ Hid (Below w.heap.size w wr)) (fun v _ => 6 - (intOf v).toNat)
 case atStart => exact ⟨1, by decide, rfl, HC, HB⟩
 case round =>
  clear HC HB
  obtain ⟨k, hk, rfl, HC, HB⟩ := hrel
  obtain ⟨w3, rfl⟩ : ∃ x : World, x = wr := ⟨_, rfl⟩
  rcases hk with rfl | rfl | rfl | rfl
  ·obtain ⟨cur, HG, HL⟩ := HC.out
   have hcap1 := eq_true (show (1 : Int) ≤ (cap : Int) from by omega)
   have hcap2 := eq_false (show ¬ cap = 1 from by omega)
   go_wp2
   refine qf_ (n := 10) (S := fun w' => True) (ds := []) #[false, false, false, false, false, false, false, false, false, false] (by kernel_rfl) rfl rfl (trivial) (fun hHeld => ?_)
   have HD := Lib.hid (ca_ HB.out)
   refine tb_ (i := 0) (N := some 38) (v := ?_) (a' := ?_) #[true, false, false, false, false, false, false, false, false, false] rfl rfl (by kernel_rfl) (fun _ _ _ h => h) (Or.inl ⟨by rfl, ?_⟩) ?_ ?_
   rotate_left
   ·intro w'
    go_simp
    with_reducible rfl
   rotate_left
   ·simp only [Act.put, List.setIfInBounds_toArray, List.set_cons_zero, List.set_cons_succ, fb_, hb_]
    rfl
   refine tb_ (i := 1) (N := some 39) (v := ?_) (a' := ?_) #[true, true, false, false, false, false, false, false, false, false] rfl rfl (by kernel_rfl) (fun _ _ _ h => h) (Or.inl ⟨by rfl, ?_⟩) ?_ ?_
   rotate_left
   ·intro w'
    go_simp
    with_reducible rfl
   rotate_left
   ·simp only [Act.put, List.setIfInBounds_toArray, List.set_cons_zero, List.set_cons_succ, fb_, hb_]
    rfl
   refine tb_ (i := 2) (N := some 40) (v := ?_) (a' := ?_) #[true, true, true, false, false, false, false, false, false, false] rfl rfl (by kernel_rfl) (fun _ _ _ h => h) (Or.inl ⟨by rfl, ?_⟩) ?_ ?_
   rotate_left
   ·intro w'
    go_simp
    with_reducible rfl
   rotate_left
   ·simp only [Act.put, List.setIfInBounds_toArray, List.set_cons_zero, List.set_cons_succ, fb_, hb_]
    rfl
   refine tb_ (i := 3) (N := some 41) (v := ?_) (a' := ?_) #[true, true, true, true, false, false, false, false, false, false] rfl rfl (by kernel_rfl) (fun _ _ _ h => h) (Or.inl ⟨by rfl, ?_⟩) ?_ ?_
   rotate_left
   ·intro w'
    go_simp
    with_reducible rfl
   rotate_left
   ·simp only [Act.put, List.setIfInBounds_toArray, List.set_cons_zero, List.set_cons_succ, fb_, hb_]
    rfl
   refine tb_ (i := 4) (N := some 42) (v := ?_) (a' := ?_) #[true, true, true, true, true, false, false, false, false, false] rfl rfl (by kernel_rfl) (fun _ _ _ h => h) (Or.inl ⟨by rfl, ?_⟩) ?_ ?_
   rotate_left
   ·intro w'
    go_simp
    with_reducible rfl
   rotate_left
   ·simp only [Act.put, List.setIfInBounds_toArray, List.set_cons_zero, List.set_cons_succ, fb_, hb_]
    rfl
   refine tb_ (i := 5) (N := some 43) (v := ?_) (a' := ?_) #[true, true, true, true, true, true, false, false, false, false] rfl rfl (by kernel_rfl) (fun _ _ _ h => h) (Or.inl ⟨by rfl, ?_⟩) ?_ ?_
   rotate_left
   ·intro w'
    go_simp
    with_reducible rfl
   rotate_left
   ·simp only [Act.put, List.setIfInBounds_toArray, List.set_cons_zero, List.set_cons_succ, fb_, hb_]
    rfl
   refine tb_ (i := 6) (N := some 44) (v := ?_) (a' := ?_) #[true, true, true, true, true, true, true, false, false, false] rfl rfl (by kernel_rfl) (fun _ _ _ h => h) (Or.inl ⟨by rfl, ?_⟩) ?_ ?_
   rotate_left
   ·intro w'
    go_simp
    with_reducible rfl
   rotate_left
   ·simp only [Act.put, List.setIfInBounds_toArray, List.set_cons_zero, List.set_cons_succ, fb_, hb_]
    rfl
   refine one_ (i := 7) (N := some 45) #[true, true, true, true, true, true, true, true, false, false] rfl rfl (by kernel_rfl) (by decide) (fun K hK => ?_)
   refine step_copy_splice rfl (.tmp 41) (.tmp 44) 22 22 rfl 3 Tryd.underlying22 (by kernel_rfl) (some ⟨g, 1, none⟩) (some ⟨g, 0, none⟩) _ _ _ _ rfl rfl g 1 cur 3 HG.out (List.replicate 1 (.int .i64 x)) (by rw [List.length_replicate]; rfl) (fun _ => ⟨rfl, _, rfl, hm_ HG.out HL.out 1 (by decide)⟩) (by simp only [List.length_replicate]; have := lh_ HL.out; omega) (gm_ x 1) w.heap.size w HD.out HGb.out ?_
   intro w4 hg4 hb4
   refine hK.out _ _ (trivial) (fun hHeld => ?_)
   clear hK K
   refine pf_ (a' := ?_) ?_ ?_
   rotate_left
   ·show Act.put _ (some 45) _ = _
    simp only [Act.put, List.setIfInBounds_toArray, List.set_cons_zero, List.set_cons_succ, fb_, hb_]
    rfl
   refine tb_ (i := 8) (N := some 46) (v := ?_) (a' := ?_) #[true, true, true, true, true, true, true, true, true, false] rfl rfl (by kernel_rfl) (fun _ _ _ h => h) (Or.inl ⟨by rfl, ?_⟩) ?_ ?_
   rotate_left
   ·intro w'
    go_simp
    with_reducible rfl
   rotate_left
   ·simp only [Act.put, List.setIfInBounds_toArray, List.set_cons_zero, List.set_cons_succ, fb_, hb_]
    rfl
   refine tb_ (i := 9) (N := some 8) (v := ?_) (a' := ?_) #[true, true, true, true, true, true, true, true, true, true] rfl rfl (by kernel_rfl) (fun _ _ _ h => h) (Or.inl ⟨by rfl, ?_⟩) ?_ ?_
   rotate_left
   ·intro w'
    go_simp
    with_reducible rfl
   rotate_left
   ·simp only [Act.put, List.setIfInBounds_toArray, List.set_cons_zero, List.set_cons_succ, fb_, hb_]
    rfl
   refine hh_ (by kernel_rfl) ?_
   have HB4 := Lib.hid hb4
   have HC4 := Lib.hid (show ∃ cur : List Value, Hid (w4.heap[g]? = some (.cells cur.toArray 3 (0, 0))) ∧ Hid (cur.take 6 = repL x 2 ∧ cur.length = cap) from ⟨_, hg4, Lib.hid ⟨dp_ HL.out.1, by rw [length_splice _ _ _ (by simp only [List.length_replicate]; have := lh_ HL.out; omega)]; exact HL.out.2⟩⟩)
   clear hb4 hg4
   go_wp2
   go_roundw
   case rel => exact ⟨2, by decide, by first | rfl | go_num | (simp [wrap64]; done), HC4, HB4⟩
   case measure => simp [intOf, wrap64]
  ·obtain ⟨cur, HG, HL⟩ := HC.out
   have hcap1 := eq_true (show (2 : Int) ≤ (cap : Int) from by omega)
   have hcap2 := eq_false (show ¬ cap = 2 from by omega)
   go_wp2
   refine qf_ (n := 10) (S := fun w' => True) (ds := []) #[false, false, false, false, false, false, false, false, false, false] (by kernel_rfl) rfl rfl (trivial) (fun hHeld => ?_)
   have HD := Lib.hid (ca_ HB.out)
   refine tb_ (i := 0) (N := some 38) (v := ?_) (a' := ?_) #[true, false, false, false, false, false, false, false, false, false] rfl rfl (by kernel_rfl) (fun _ _ _ h => h) (Or.inl ⟨by rfl, ?_⟩) ?_ ?_
   rotate_left
   ·intro w'
    go_simp
    with_reducible rfl
   rotate_left
   ·simp only [Act.put, List.setIfInBounds_toArray, List.set_cons_zero, List.set_cons_succ, fb_, hb_]
    rfl
   refine tb_ (i := 1) (N := some 39) (v := ?_) (a' := ?_) #[true, true, false, false, false, false, false, false, false, false] rfl rfl (by kernel_rfl) (fun _ _ _ h => h) (Or.inl ⟨by rfl, ?_⟩) ?_ ?_
   rotate_left
   ·intro w'
    go_simp
    with_reducible rfl
   rotate_left
   ·simp only [Act.put, List.setIfInBounds_toArray, List.set_cons_zero, List.set_cons_succ, fb_, hb_]
    rfl
   refine tb_ (i := 2) (N := some 40) (v := ?_) (a' := ?_) #[true, true, true, false, false, false, false, false, false, false] rfl rfl (by kernel_rfl) (fun _ _ _ h => h) (Or.inl ⟨by rfl, ?_⟩) ?_ ?_
   rotate_left
   ·intro w'
    go_simp
    with_reducible rfl
   rotate_left
   ·simp only [Act.put, List.setIfInBounds_toArray, List.set_cons_zero, List.set_cons_succ, fb_, hb_]
    rfl
   refine tb_ (i := 3) (N := some 41) (v := ?_) (a' := ?_) #[true, true, true, true, false, false, false, false, false, false] rfl rfl (by kernel_rfl) (fun _ _ _ h => h) (Or.inl ⟨by rfl, ?_⟩) ?_ ?_
   rotate_left
   ·intro w'
    go_simp
    with_reducible rfl
   rotate_left
   ·simp only [Act.put, List.setIfInBounds_toArray, List.set_cons_zero, List.set_cons_succ, fb_, hb_]
    rfl
   refine tb_ (i := 4) (N := some 42) (v := ?_) (a' := ?_) #[true, true, true, true, true, false, false, false, false, false] rfl rfl (by kernel_rfl) (fun _ _ _ h => h) (Or.inl ⟨by rfl, ?_⟩) ?_ ?_
   rotate_left
   ·intro w'
    go_simp
    with_reducible rfl
   rotate_left
   ·simp only [Act.put, List.setIfInBounds_toArray, List.set_cons_zero, List.set_cons_succ, fb_, hb_]
    rfl
   refine tb_ (i := 5) (N := some 43) (v := ?_) (a' := ?_) #[true, true, true, true, true, true, false, false, false, false] rfl rfl (by kernel_rfl) (fun _ _ _ h => h) (Or.inl ⟨by rfl, ?_⟩) ?_ ?_
   rotate_left
   ·intro w'
    go_simp
    with_reducible rfl
   rotate_left
   ·simp only [Act.put, List.setIfInBounds_toArray, List.set_cons_zero, List.set_cons_succ, fb_, hb_]
    rfl
   refine tb_ (i := 6) (N := some 44) (v := ?_) (a' := ?_) #[true, true, true, true, true, true, true, false, false, false] rfl rfl (by kernel_rfl) (fun _ _ _ h => h) (Or.inl ⟨by rfl, ?_⟩) ?_ ?_
   rotate_left
   ·intro w'
    go_simp
    with_reducible rfl
   rotate_left
   ·simp only [Act.put, List.setIfInBounds_toArray, List.set_cons_zero, List.set_cons_succ, fb_, hb_]
    rfl
   refine one_ (i := 7) (N := some 45) #[true, true, true, true, true, true, true, true, false, false] rfl rfl (by kernel_rfl) (by decide) (fun K hK => ?_)
   refine step_copy_splice rfl (.tmp 41) (.tmp 44) 22 22 rfl 3 Tryd.underlying22 (by kernel_rfl) (some ⟨g, 2, none⟩) (some ⟨g, 0, none⟩) _ _ _ _ rfl rfl g 2 cur 3 HG.out (List.replicate 2 (.int .i64 x)) (by rw [List.length_replicate]; rfl) (fun _ => ⟨rfl, _, rfl, hm_ HG.out HL.out 2 (by decide)⟩) (by simp only [List.length_replicate]; have := lh_ HL.out; omega) (gm_ x 2) w.heap.size w HD.out HGb.out ?_
   intro w4 hg4 hb4
   refine hK.out _ _ (trivial) (fun hHeld => ?_)
   clear hK K
   refine pf_ (a' := ?_) ?_ ?_
   rotate_left
   ·show Act.put _ (some 45) _ = _
    simp only [Act.put, List.setIfInBounds_toArray, List.set_cons_zero, List.set_cons_succ, fb_, hb_]
    rfl
   refine tb_ (i := 8) (N := some 46) (v := ?_) (a' := ?_) #[true, true, true, true, true, true, true, true, true, false] rfl rfl (by kernel_rfl) (fun _ _ _ h => h) (Or.inl ⟨by rfl, ?_⟩) ?_ ?_
   rotate_left
   ·intro w'
    go_simp
    with_reducible rfl
   rotate_left
   ·simp only [Act.put, List.setIfInBounds_toArray, List.set_cons_zero, List.set_cons_succ, fb_, hb_]
    rfl
   refine tb_ (i := 9) (N := some 8) (v := ?_) (a' := ?_) #[true, true, true, true, true, true, true, true, true, true] rfl rfl (by kernel_rfl) (fun _ _ _ h => h) (Or.inl ⟨by rfl, ?_⟩) ?_ ?_
   rotate_left
   ·intro w'
    go_simp
    with_reducible rfl
   rotate_left
   ·simp only [Act.put, List.setIfInBounds_toArray, List.set_cons_zero, List.set_cons_succ, fb_, hb_]
    rfl
   refine hh_ (by kernel_rfl) ?_
   have HB4 := Lib.hid hb4
   have HC4 := Lib.hid (show ∃ cur : List Value, Hid (w4.heap[g]? = some (.cells cur.toArray 3 (0, 0))) ∧ Hid (cur.take 6 = repL x 4 ∧ cur.length = cap) from ⟨_, hg4, Lib.hid ⟨ep_ HL.out.1, by rw [length_splice _ _ _ (by simp only [List.length_replicate]; have := lh_ HL.out; omega)]; exact HL.out.2⟩⟩)
   clear hb4 hg4
   go_wp2
   go_roundw
   case rel => exact ⟨4, by decide, by first | rfl | go_num | (simp [wrap64]; done), HC4, HB4⟩
   case measure => simp [intOf, wrap64]
  ·obtain ⟨cur, HG, HL⟩ := HC.out
   have hcap1 := eq_true (show (4 : Int) ≤ (cap : Int) from by omega)
   have hcap2 := eq_false (show ¬ cap = 4 from by omega)
   go_wp2
   refine qf_ (n := 10) (S := fun w' => True) (ds := []) #[false, false, false, false, false, false, false, false, false, false] (by kernel_rfl) rfl rfl (trivial) (fun hHeld => ?_)
   have HD := Lib.hid (ca_ HB.out)
   refine tb_ (i := 0) (N := some 38) (v := ?_) (a' := ?_) #[true, false, false, false, false, false, false, false, false, false] rfl rfl (by kernel_rfl) (fun _ _ _ h => h) (Or.inl ⟨by rfl, ?_⟩) ?_ ?_
   rotate_left
   ·intro w'
    go_simp
    with_reducible rfl
   rotate_left
   ·simp only [Act.put, List.setIfInBounds_toArray, List.set_cons_zero, List.set_cons_succ, fb_, hb_]
    rfl
   refine tb_ (i := 1) (N := some 39) (v := ?_) (a' := ?_) #[true, true, false, false, false, false, false, false, false, false] rfl rfl (by kernel_rfl) (fun _ _ _ h => h) (Or.inl ⟨by rfl, ?_⟩) ?_ ?_
   rotate_left
   ·intro w'
    go_simp
    with_reducible rfl
   rotate_left
   ·simp only [Act.put, List.setIfInBounds_toArray, List.set_cons_zero, List.set_cons_succ, fb_, hb_]
    rfl
   refine tb_ (i := 2) (N := some 40) (v := ?_) (a' := ?_) #[true, true, true, false, false, false, false, false, false, false] rfl rfl (by kernel_rfl) (fun _ _ _ h => h) (Or.inl ⟨by rfl, ?_⟩) ?_ ?_
   rotate_left
   ·intro w'
    go_simp
    with_reducible rfl
   rotate_left
   ·simp only [Act.put, List.setIfInBounds_toArray, List.set_cons_zero, List.set_cons_succ, fb_, hb_]
    rfl
   refine tb_ (i := 3) (N := some 41) (v := ?_) (a' := ?_) #[true, true, true, true, false, false, false, false, false, false] rfl rfl (by kernel_rfl) (fun _ _ _ h => h) (Or.inl ⟨by rfl, ?_⟩) ?_ ?_
   rotate_left
   ·intro w'
    go_simp
    with_reducible rfl
   rotate_left
   ·simp only [Act.put, List.setIfInBounds_toArray, List.set_cons_zero, List.set_cons_succ, fb_, hb_]
    rfl
   refine tb_ (i := 4) (N := some 42) (v := ?_) (a' := ?_) #[true, true, true, true, true, false, false, false, false, false] rfl rfl (by kernel_rfl) (fun _ _ _ h => h) (Or.inl ⟨by rfl, ?_⟩) ?_ ?_
   rotate_left
   ·intro w'
    go_simp
    with_reducible rfl
   rotate_left
   ·simp only [Act.put, List.setIfInBounds_toArray, List.set_cons_zero, List.set_cons_succ, fb_, hb_]
    rfl
   refine tb_ (i := 5) (N := some 43) (v := ?_) (a' := ?_) #[true, true, true, true, true, true, false, false, false, false] rfl rfl (by kernel_rfl) (fun _ _ _ h => h) (Or.inl ⟨by rfl, ?_⟩) ?_ ?_
   rotate_left
   ·intro w'
    go_simp
    with_reducible rfl
   rotate_left
   ·simp only [Act.put, List.setIfInBounds_toArray, List.set_cons_zero, List.set_cons_succ, fb_, hb_]
    rfl
   refine tb_ (i := 6) (N := some 44) (v := ?_) (a' := ?_) #[true, true, true, true, true, true, true, false, false, false] rfl rfl (by kernel_rfl) (fun _ _ _ h => h) (Or.inl ⟨by rfl, ?_⟩) ?_ ?_
   rotate_left
   ·intro w'
    go_simp
    with_reducible rfl
   rotate_left
   ·simp only [Act.put, List.setIfInBounds_toArray, List.set_cons_zero, List.set_cons_succ, fb_, hb_]
    rfl
   refine one_ (i := 7) (N := some 45) #[true, true, true, true, true, true, true, true, false, false] rfl rfl (by kernel_rfl) (by decide) (fun K hK => ?_)
   refine step_copy_splice rfl (.tmp 41) (.tmp 44) 22 22 rfl 3 Tryd.underlying22 (by kernel_rfl) (some ⟨g, 4, none⟩) (some ⟨g, 0, none⟩) _ _ _ _ rfl rfl g 4 cur 3 HG.out (List.replicate 2 (.int .i64 x)) (by rw [List.length_replicate]; rfl) (fun _ => ⟨rfl, _, rfl, hm_ HG.out HL.out 2 (by decide)⟩) (by simp only [List.length_replicate]; have := lh_ HL.out; omega) (gm_ x 2) w.heap.size w HD.out HGb.out ?_
   intro w4 hg4 hb4
   refine hK.out _ _ (trivial) (fun hHeld => ?_)
   clear hK K
   refine pf_ (a' := ?_) ?_ ?_
   rotate_left
   ·show Act.put _ (some 45) _ = _
    simp only [Act.put, List.setIfInBounds_toArray, List.set_cons_zero, List.set_cons_succ, fb_, hb_]
    rfl
   refine tb_ (i := 8) (N := some 46) (v := ?_) (a' := ?_) #[true, true, true, true, true, true, true, true, true, false] rfl rfl (by kernel_rfl) (fun _ _ _ h => h) (Or.inl ⟨by rfl, ?_⟩) ?_ ?_
   rotate_left
   ·intro w'
    go_simp
    with_reducible rfl
   rotate_left
   ·simp only [Act.put, List.setIfInBounds_toArray, List.set_cons_zero, List.set_cons_succ, fb_, hb_]
    rfl
   refine tb_ (i := 9) (N := some 8) (v := ?_) (a' := ?_) #[true, true, true, true, true, true, true, true, true, true] rfl rfl (by kernel_rfl) (fun _ _ _ h => h) (Or.inl ⟨by rfl, ?_⟩) ?_ ?_
   rotate_left
   ·intro w'
    go_simp
    with_reducible rfl
   rotate_left
   ·simp only [Act.put, List.setIfInBounds_toArray, List.set_cons_zero, List.set_cons_succ, fb_, hb_]
    rfl
   refine hh_ (by kernel_rfl) ?_
   have HB4 := Lib.hid hb4
   have HC4 := Lib.hid (show ∃ cur : List Value, Hid (w4.heap[g]? = some (.cells cur.toArray 3 (0, 0))) ∧ Hid (cur.take 6 = repL x 6 ∧ cur.length = cap) from ⟨_, hg4, Lib.hid ⟨fp_ HL.out.1, by rw [length_splice _ _ _ (by simp only [List.length_replicate]; have := lh_ HL.out; omega)]; exact HL.out.2⟩⟩)
   clear hb4 hg4
   go_wp2
   go_roundw
   case rel => exact ⟨6, by decide, by first | rfl | go_num | (simp [wrap64]; done), HC4, HB4⟩
   case measure => simp [intOf, wrap64]
  ·obtain ⟨cur, HG, HL⟩ := HC.out
   go_wp2
   go_ret
   exact ⟨_, rfl, qn_ HG.out HL.out hcap0 HX.out HGb.out, HB.out⟩
end Go.Proofs.YtpkhgapifnjbeaaDoor.G
end
section
namespace Go.Proofs.YtpkhgapifnjbeaaDoor.G
set_option linter.unusedVariables false
set_option linter.unusedSimpArgs false
open Go.RowKit Go.Proofs.YtpkhgapifnjbeaaDoorW.PrintWords Go.Proofs.YtpkhgapifnjbeaaDoorW.PrintLast Go.Proofs.YtpkhgapifnjbeaaDoorW.PrintMore Go.Proofs.YtpkhgapifnjbeaaDoor.Rs
def mf_.f (l ps : List Int) : Option (List Int) := Go.Proofs.YtpkhgapifnjbeaaDoor.F.eb_.f 400 l ps
theorem mf_.do_ (A0 : Option Addr) (c0 : Nat) (l0 : List Int) (A1 : Option Addr) (c1 : Nat) (l1 : List Int) (r : List Int) (w : World) (hr0 : Kd.C (Kd.int .i64) w A0 l0.length l0) (hc0 : l0.length ≤ c0) (hr1 : Kd.C (Kd.int .i64) w A1 l1.length l1) (hc1 : l1.length ≤ c1) (h : mf_.f l0 l1 = some r) :
  Calls Tryd.prog 40 #[.slice A0 l0.length c0, .slice A1 l1.length c1] w fun e w' => ∃ v0_ : Value, e = .returned (v0_) ∧ Kd.R (Kd.int .i64) 3 w' w.heap.size (fun _ => True) v0_ r ∧ Below w.heap.size w w' ∧ (l0 ≠ [] → r = [] → v0_ = .slice none 0 0) :=
 Go.Proofs.YtpkhgapifnjbeaaDoor.F.eb_.calls 400 A0 c0 l0 A1 c1 l1 r w hr0 hc0 hr1 hc1 h
theorem mf_.calls (A0 : Option Addr) (c0 : Nat) (l0 : List Int) (A1 : Option Addr) (c1 : Nat) (l1 : List Int) (r : List Int) (w : World) (hr0 : Kd.C (Kd.int .i64) w A0 l0.length l0) (hc0 : l0.length ≤ c0) (hr1 : Kd.C (Kd.int .i64) w A1 l1.length l1) (hc1 : l1.length ≤ c1) (h : mf_.f l0 l1 = some r) :
  Calls Tryd.prog 40 #[.slice A0 l0.length c0, .slice A1 l1.length c1] w fun e w' => ∃ v0_ : Value, e = .returned (v0_) ∧ Kd.R (Kd.int .i64) 3 w' w.heap.size (fun _ => True) v0_ r ∧ Below w.heap.size w w' :=
 (mf_.do_ A0 c0 l0 A1 c1 l1 r w hr0 hc0 hr1 hc1 h).mono fun e w' ⟨v, h1, h2, h3, _⟩ => ⟨v, h1, h2, h3⟩
def fn_.f (l ps : List Int) (n : Int) : Option (List Int × Bool) := Go.Proofs.YtpkhgapifnjbeaaDoor.L.fa_.f 2000 l ps n
theorem fn_.calls (A0 : Option Addr) (c0 : Nat) (l0 : List Int) (A1 : Option Addr) (c1 : Nat) (l1 : List Int) (a2 : Int) (r1 : List Int) (r2 : Bool) (w : World) (hr0 : Kd.C (Kd.int .i64) w A0 l0.length l0) (hc0 : l0.length ≤ c0) (hr1 : Kd.C (Kd.int .i64) w A1 l1.length l1) (hc1 : l1.length ≤ c1) (h : fn_.f l0 l1 a2 = some (r1, r2)) :
  Calls Tryd.prog 49 #[.slice A0 l0.length c0, .slice A1 l1.length c1, .int .i64 a2] w fun e w' => ∃ v0_ : Value, e = .returned (.tuple #[v0_, .bool r2]) ∧ Kd.R (Kd.int .i64) 3 w' w.heap.size (fun _ => True) v0_ r1 ∧ Below w.heap.size w w' :=
 Go.Proofs.YtpkhgapifnjbeaaDoor.L.fa_.calls 2000 A0 c0 l0 A1 c1 l1 a2 r1 r2 w hr0 hc0 hr1 hc1 h
theorem ng_ (A0 : Option Addr) (c0 : Nat) (l0 : List Int) (A1 : Option Addr) (c1 : Nat) (l1 : List Int) (w : World)
  (hr0 : Kd.C (Kd.int .i64) w A0 l0.length l0) (hc0 : l0.length ≤ c0) (hr1 : Kd.C (Kd.int .i64) w A1 l1.length l1) (hc1 : l1.length ≤ c1) (hl : l0.length + l1.length ≤ 500) :
  Calls Tryd.prog 36 #[.slice (some ⟨w.heap.size, 0, none⟩) 2 2] (w.alloc (.cells #[.slice A0 l0.length c0, .slice A1 l1.length c1] 22)) fun e w' => ∃ v : Value, e = .returned v ∧ Kd.R (Kd.int .i64) 3 w' w.heap.size (fun _ => True) v (l0 ++ l1) ∧ Below w.heap.size w w' := by
 have hb := da_ (Below.refl w.heap.size w) (.cells #[.slice A0 l0.length c0, .slice A1 l1.length c1] 22)
 have hg := heap_alloc_new w (.cells #[.slice A0 l0.length c0, .slice A1 l1.length c1] 22)
 refine (rl_ w.heap.size 2 A0 c0 l0 A1 c1 l1 _ ?_ ?_ (Kd.rd_ hr0 hb) hc0 (Kd.rd_ hr1 hb) hc1 (by omega) (by omega)).mono ?_
 ·rw [cell_of_row _ _ 0 _ _ (0, 0) hg]; rfl
 ·rw [cell_of_row _ _ 1 _ _ (0, 0) hg]; rfl
 ·rintro e w' ⟨v, he, hR, hB⟩
  exact ⟨v, he, Kd.wc_ hR (wa_ hb), pa_ hb hB⟩
def zl_.f (l : List Int) : Option (List Int) := if l.length ≤ 400 then some (l ++ List.replicate 6 (-1)) else none
theorem zl_.some {l t : List Int} (h : zl_.f l = some t) : t = l ++ List.replicate 6 (-1) ∧ l.length ≤ 400 := by
 unfold zl_.f at h
 by_cases hl : l.length ≤ 400
 ·rw [if_pos hl] at h; exact ⟨(Option.some.inj h).symm, hl⟩
 ·rw [if_neg hl] at h; cases h
def wi_.f (a b : List Int) : Option (List Int) := if a.length + b.length ≤ 400 then some (a ++ b) else none
theorem wi_.some {a b t : List Int} (h : wi_.f a b = some t) : t = a ++ b ∧ a.length + b.length ≤ 400 := by
 unfold wi_.f at h
 by_cases hl : a.length + b.length ≤ 400
 ·rw [if_pos hl] at h; exact ⟨(Option.some.inj h).symm, hl⟩
 ·rw [if_neg hl] at h; cases h
theorem in_ {e base n c : Nat} {ok : Nat → Prop} {w : World} {A : Option Addr} {xs : List Int} (h : Kd.R (Kd.int .i64) e w base ok (.slice A n c) xs) (hn : 0 < xs.length) : ∃ g, A = some g := by
 obtain ⟨g, cap, he, _⟩ := Kd.yf_ h hn
 injection he with h1 _ _
 exact ⟨_, h1⟩
theorem ms_ {l : List Int} {a : Int} (h : nf_.f l a = some true) : l ≠ [] := by
 rintro rfl
 unfold nf_.f at h
 simp at h
end Go.Proofs.YtpkhgapifnjbeaaDoor.G
end
section
namespace Go.Proofs.YtpkhgapifnjbeaaDoor.E
open Go.RowKit Go.Proofs.YtpkhgapifnjbeaaDoor.G Go.Proofs.YtpkhgapifnjbeaaDoor.Rs Go.Proofs.YtpkhgapifnjbeaaDoorW.PrintWords Go.Proofs.YtpkhgapifnjbeaaDoorW.PrintLast Go.Proofs.YtpkhgapifnjbeaaDoorW.PrintMore
attribute [local go_sem] qc_ sc_ cd_ dd_ jc_ kc_ rc_ tc_
set_option linter.unusedVariables false
set_option linter.unusedSimpArgs false
def errW : Option Int → Value
 | none => .nilIface
 | some c => .iface 0 (.int .i64 c)
theorem xa_ : errW none = .nilIface := rfl
theorem ya_ (c : Int) : errW (some c) = .iface 0 (.int .i64 c) := rfl
theorem ii_ : (Tryd.prog.info? 3).map (fun i => (i.zero, i.size, i.bytes)) = some (some (.int .i64 0), 1, 8) := by kernel_rfl
def ke_ (xs : List (List Int)) (i : Int) : (List Int) := xs.getD i.toNat ([] : List Int)
theorem bo_ {w : World} {A : Option Addr} {n : Nat} {xs : List (List Int)} (h : Kd.C (Kd.slice 3 (Kd.int .i64)) w A n xs) (i : Int) (h0 : 0 ≤ i) (h1 : i < n) : ∃ ad A0 c0, A = some ad ∧ w.cell? (ad.add i.toNat) = some (.slice A0 (ke_ xs i).length c0) ∧ (ke_ xs i).length ≤ c0 ∧ (Kd.int .i64).C w A0 (ke_ xs i).length (ke_ xs i) := by
 obtain ⟨ad, c, e, _, hK, hc0⟩ := Kd.eh_ h ([] : List Int) i h0 h1
 have hc : ∀ j u, c[j]? = some u → w.cell? (ad.add (i.toNat * 1 + j)) = some u := hc0
 obtain ⟨A0, c0, rfl, l0, g0⟩ := hK
 exact ⟨ad, A0, c0, e, by have hq := hc 0 _ rfl; rwa [Nat.mul_one, Nat.add_zero] at hq, l0, g0⟩
end Go.Proofs.YtpkhgapifnjbeaaDoor.E
end
section
namespace Go.Proofs.YtpkhgapifnjbeaaDoor.E
open Go.RowKit Go.Proofs.YtpkhgapifnjbeaaDoor.G Go.Proofs.YtpkhgapifnjbeaaDoor.Rs Go.Proofs.YtpkhgapifnjbeaaDoorW.PrintWords Go.Proofs.YtpkhgapifnjbeaaDoorW.PrintLast Go.Proofs.YtpkhgapifnjbeaaDoorW.PrintMore
attribute [local go_sem] qc_ sc_ cd_ dd_ jc_ kc_ rc_ tc_
set_option linter.unusedVariables false
set_option linter.unusedSimpArgs false
def kb_.l0 : Nat → List Int → Int → Int → Int → Option (Int)
 | 0, _, _, _, _ => none
 | k + 1, x0, x1, x7, x8 => if x8 < x7 then (if 0 ≤ x8 then (if x8 < (x0.length : Int) then (if x1 = (rd x0 x8) then (some x8) else (kb_.l0 k x0 x1 x7 (wrap64 (x8 + 1)))) else (none)) else (none)) else (some (-1))
def kb_.f (k : Nat) (l0 : List Int) (a1 : Int) : Option (Int) := kb_.l0 k l0 a1 (l0.length : Int) 0
theorem kb_.td_ : ∀ k, (∀ y0 y1 y2 y3, LeO (kb_.l0 k y0 y1 y2 y3) (kb_.l0 (k + 1) y0 y1 y2 y3))
 | 0 => fun _ _ _ _ r h => by simp [kb_.l0] at h
 | k + 1 => by
  have ih0 := kb_.td_ k
  ·intro y0 y1 y2 y3
   unfold kb_.l0
   repeat' first
   | (with_reducible exact ih0 _ _ _ _)
   | (with_reducible exact LeO.refl _)
   | (with_reducible exact LeO.none _)
   | (with_reducible refine LeO.ite ?_ ?_)
   | (with_reducible refine LeO.bind ?_ (fun _ => ?_))
   | exact ih0 _ _ _ _
   | exact LeO.none _
   | refine LeO.ite ?_ ?_
   | refine LeO.bind ?_ (fun _ => ?_)
theorem kb_.mono : ∀ a0 a1 k, LeO (kb_.f k a0 a1) (kb_.f (k + 1) a0 a1) := by
 intro a0 a1 k
 have ih0 := kb_.td_ k
 unfold kb_.f
 repeat' first
   | (with_reducible exact ih0 _ _ _ _)
   | (with_reducible exact LeO.refl _)
   | (with_reducible exact LeO.none _)
   | (with_reducible refine LeO.ite ?_ ?_)
   | (with_reducible refine LeO.bind ?_ (fun _ => ?_))
   | exact ih0 _ _ _ _
   | exact LeO.none _
   | refine LeO.ite ?_ ?_
   | refine LeO.bind ?_ (fun _ => ?_)
set_option maxHeartbeats 8000000 in
set_option maxRecDepth 100000 in
theorem kb_.calls (k : Nat) (A0 : Option Addr) (c0 : Nat) (l0 : List Int) (a1 : Int) (r : Int) (w : World) (hr0 : Kd.C (Kd.int .i64) w A0 l0.length l0) (hc0 : l0.length ≤ c0) (h : kb_.f k l0 a1 = some r) :
  Calls Tryd.prog 52 #[.slice A0 l0.length c0, .int .i64 a1] w fun e w' => e = .returned (.int .i64 r) ∧ gb_ w w' := by
 have HR0 := ba_.mk hr0
 have HC0 := ba_.mk hc0
 clear hr0 hc0
 have H : (kb_.l0 k l0 a1 (l0.length : Int) 0) = some r := h
 clear h
 have H' := ba_.mk H
 clear H
 go_enter Tryd.func52, Tryd.ntmps52
 go_wp2
 go_loopg [8] k (fun kq v8 w' => ∃ (x8_1 : Int), v8 = .int .i64 x8_1 ∧ ba_ (kb_.l0 kq l0 a1 (l0.length : Int) x8_1 = some r) ∧ ba_ (kq ≤ k) ∧ gb_ w w')
 case atStart => exact ⟨(0), (by first | rfl | (simp; done) | (simp [*]; done)), H', ⟨Nat.le_refl _⟩, by repeat (first | exact gb_.refl _ | apply gb_.step)⟩
 case round =>
  clear H'
  try clear p2
  obtain ⟨x8_1, rfl, HA, HK1, ⟨m1, rfl⟩⟩ := hrel
  cases gk with
  | zero => exact absurd HA.out (by simp [kb_.l0])
  | succ k1 =>
   have H := HA.out
   clear HA
   simp only [kb_.l0] at H
   by_cases c3 : x8_1 < (l0.length : Int)
   ·rw [if_pos c3] at H
    have c3b0 : decide (x8_1 < (l0.length : Int)) = true := decide_eq_true c3
    clear c3
    by_cases c4 : 0 ≤ x8_1
    ·rw [if_pos c4] at H
     have c4b0 : decide (0 ≤ x8_1) = true := decide_eq_true c4
     clear c4
     by_cases c5 : x8_1 < (l0.length : Int)
     ·rw [if_pos c5] at H
      have c5b0 : decide (x8_1 < (l0.length : Int)) = true := decide_eq_true c5
      clear c5
      by_cases c6 : a1 = (rd l0 x8_1)
      ·rw [if_pos c6] at H
       have c6b0 : (a1 == (rd l0 x8_1)) = true := beq_iff_eq.mpr c6
       have c6b1 : (a1 != (rd l0 x8_1)) = false := bne_eq_false_iff_eq.mpr c6
       clear c6
       obtain rfl := Option.some.inj H
       have p102 : 0 ≤ (x8_1 : Int) := of_decide_eq_true (by first | (with_reducible assumption) | assumption)
       have q102 : x8_1 < (l0.length : Int) := of_decide_eq_true (by first | (with_reducible assumption) | assumption)
       obtain ⟨ad102, e102, hx102_0⟩ := Kd.id_ HR0.out x8_1 p102 q102
       cases e102
       replace p102 := eq_true p102
       replace q102 := eq_true q102
       go_wp2
       go_ret
       exact ⟨by first | rfl | (simp; done) | (simp [*]; done), by repeat (first | exact gb_.refl _ | apply gb_.step)⟩
      ·rw [if_neg c6] at H
       have c6b0 : (a1 == (rd l0 x8_1)) = false := beq_eq_false_iff_ne.mpr c6
       have c6b1 : (a1 != (rd l0 x8_1)) = true := bne_iff_ne.mpr c6
       have H' := ba_.mk H
       clear H
       have p102 : 0 ≤ (x8_1 : Int) := of_decide_eq_true (by first | (with_reducible assumption) | assumption)
       have q102 : x8_1 < (l0.length : Int) := of_decide_eq_true (by first | (with_reducible assumption) | assumption)
       obtain ⟨ad102, e102, hx102_0⟩ := Kd.id_ HR0.out x8_1 p102 q102
       cases e102
       replace p102 := eq_true p102
       replace q102 := eq_true q102
       go_wp2
       go_roundg k1
       case measure => have := HK1.out; omega
       case rel => exact ⟨(wrap64 (x8_1 + 1)), (by first | rfl | (simp; done) | (simp [*]; done)), H', ⟨by have := HK1.out; omega⟩, by repeat (first | exact gb_.refl _ | apply gb_.step)⟩
     ·rw [if_neg c5] at H
      exact absurd H (by simp)
    ·rw [if_neg c4] at H
     exact absurd H (by simp)
   ·rw [if_neg c3] at H
    have c3b0 : decide (x8_1 < (l0.length : Int)) = false := decide_eq_false c3
    clear c3
    obtain rfl := Option.some.inj H
    go_wp2
    go_ret
    exact ⟨by first | rfl | (simp; done) | (simp [*]; done), by repeat (first | exact gb_.refl _ | apply gb_.step)⟩
def rb_.f (k : Nat) (l0 : List Int) (a1 : Int) : Option (Bool) := (kb_.f k l0 a1).bind fun t103 => (some (decide (t103 ≥ 0)))
theorem rb_.mono : ∀ a0 a1 k, LeO (rb_.f k a0 a1) (rb_.f (k + 1) a0 a1) := by
 intro a0 a1 k
 unfold rb_.f
 repeat' first
   | (with_reducible exact kb_.mono _ _ _)
   | (with_reducible exact LeO.refl _)
   | (with_reducible exact LeO.none _)
   | (with_reducible refine LeO.ite ?_ ?_)
   | (with_reducible refine LeO.bind ?_ (fun _ => ?_))
   | exact kb_.mono _ _ _
   | exact LeO.none _
   | refine LeO.ite ?_ ?_
   | refine LeO.bind ?_ (fun _ => ?_)
set_option maxHeartbeats 8000000 in
set_option maxRecDepth 100000 in
theorem rb_.calls (k : Nat) (A0 : Option Addr) (c0 : Nat) (l0 : List Int) (a1 : Int) (r : Bool) (w : World) (hr0 : Kd.C (Kd.int .i64) w A0 l0.length l0) (hc0 : l0.length ≤ c0) (h : rb_.f k l0 a1 = some r) :
  Calls Tryd.prog 39 #[.slice A0 l0.length c0, .int .i64 a1] w fun e w' => e = .returned (.bool r) ∧ gb_ w w' := by
 have HR0 := ba_.mk hr0
 have HC0 := ba_.mk hc0
 clear hr0 hc0
 have H : ((kb_.f k l0 a1).bind fun t103 => (some (decide (t103 ≥ 0)))) = some r := h
 clear h
 replace H := Option.bind_eq_some_iff.mp H
 obtain ⟨t103, A30, H⟩ := H
 replace H : (some (decide (t103 ≥ 0))) = some r := H
 have A3 := ba_.mk A30
 clear A30
 obtain rfl := Option.some.inj H
 go_enter Tryd.func39, Tryd.ntmps39
 go_wp2_with (first | ((with_reducible refine la_ (f := 52) rfl ?_); refine wb_ (some 7) rfl rfl Tryd.func52 (by kernel_rfl) rfl #[.slice A0 l0.length c0, .int .i64 a1] rfl (by (try simp only [List.map_toArray, List.map_cons, List.map_nil]); first | done | rfl | (simp only [List.length_drop, List.length_take]; rfl)) ?_; (with_reducible refine (kb_.calls k _ _ l0 a1 t103 _ ?side1 ?side2 A3.out).mono ?_); (case side1 => repeat (first | exact HR0.out | (with_reducible refine Kd.zc_ ?_ _) | (with_reducible refine Kd.ad_ ?_ _) | (with_reducible refine Kd.md_ ?_))); (case side2 => exact HC0.out); rintro e w' ⟨rfl, ⟨nd, rfl⟩⟩; refine ⟨_, rfl, ?_⟩))
 go_ret
 exact ⟨by first | rfl | (simp; done) | (simp [*]; done), by repeat (first | exact gb_.refl _ | apply gb_.step)⟩
mutual
def nb_.j0 : Nat → List Int → List Int → Bool → Option (List Int × Int)
 | 0, _, _, _ => none
 | k + 1, x0, x4, x18 => if x18 = true then (some (([] : List Int), 2)) else (if 6 ≤ 35184372088832 then ((some (List.replicate 6 0 : List Int)).bind fun y109 => (nb_.l0 k x0 x4 y109 (y109.length : Int) 0)) else (none))
def nb_.l0 : Nat → List Int → List Int → List Int → Int → Int → Option (List Int × Int)
 | 0, _, _, _, _, _ => none
 | k + 1, x0, x4, x5, x21, x22 => if x22 < x21 then (if 0 ≤ x22 then (if x22 < (x5.length : Int) then (nb_.l0 k x0 x4 (x5.set (x22 : Int).toNat (wrap64 ((x0.length : Int) + x22))) x21 (wrap64 (x22 + 1))) else (none)) else (none)) else ((mf_.f x4 x5).bind fun t113 => (some (t113, 0)))
end
def nb_.f (k : Nat) (l0 : List Int) : Option (List Int × Int) := (zl_.f l0).bind fun t104 => ((nf_.f t104 (-1)).bind fun t107 => (if t107 = true then ((rb_.f k l0 (-1)).bind fun t108 => (nb_.j0 k l0 t104 t108)) else (nb_.j0 k l0 t104 true)))
theorem nb_.td_ : ∀ k, (∀ y0 y1 y2, LeO (nb_.j0 k y0 y1 y2) (nb_.j0 (k + 1) y0 y1 y2)) ∧ (∀ y0 y1 y2 y3 y4, LeO (nb_.l0 k y0 y1 y2 y3 y4) (nb_.l0 (k + 1) y0 y1 y2 y3 y4))
 | 0 => ⟨fun _ _ _ r h => by simp [nb_.j0] at h, fun _ _ _ _ _ r h => by simp [nb_.l0] at h⟩
 | k + 1 => by
  obtain ⟨ih0, ih1⟩ := nb_.td_ k
  refine ⟨?_, ?_⟩
  ·intro y0 y1 y2
   unfold nb_.j0
   repeat' first
   | (with_reducible exact ih0 _ _ _)
   | (with_reducible exact ih1 _ _ _ _ _)
   | (with_reducible exact rb_.mono _ _ _)
   | (with_reducible exact LeO.refl _)
   | (with_reducible exact LeO.none _)
   | (with_reducible refine LeO.ite ?_ ?_)
   | (with_reducible refine LeO.bind ?_ (fun _ => ?_))
   | exact ih0 _ _ _
   | exact ih1 _ _ _ _ _
   | exact rb_.mono _ _ _
   | exact LeO.none _
   | refine LeO.ite ?_ ?_
   | refine LeO.bind ?_ (fun _ => ?_)
  ·intro y0 y1 y2 y3 y4
   unfold nb_.l0
   repeat' first
   | (with_reducible exact ih0 _ _ _)
   | (with_reducible exact ih1 _ _ _ _ _)
   | (with_reducible exact rb_.mono _ _ _)
   | (with_reducible exact LeO.refl _)
   | (with_reducible exact LeO.none _)
   | (with_reducible refine LeO.ite ?_ ?_)
   | (with_reducible refine LeO.bind ?_ (fun _ => ?_))
   | exact ih0 _ _ _
   | exact ih1 _ _ _ _ _
   | exact rb_.mono _ _ _
   | exact LeO.none _
   | refine LeO.ite ?_ ?_
   | refine LeO.bind ?_ (fun _ => ?_)
theorem nb_.mono : ∀ a0 k, LeO (nb_.f k a0) (nb_.f (k + 1) a0) := by
 intro a0 k
 obtain ⟨ih0, ih1⟩ := nb_.td_ k
 unfold nb_.f
 repeat' first
   | (with_reducible exact ih0 _ _ _)
   | (with_reducible exact ih1 _ _ _ _ _)
   | (with_reducible exact rb_.mono _ _ _)
   | (with_reducible exact LeO.refl _)
   | (with_reducible exact LeO.none _)
   | (with_reducible refine LeO.ite ?_ ?_)
   | (with_reducible refine LeO.bind ?_ (fun _ => ?_))
   | exact ih0 _ _ _
   | exact ih1 _ _ _ _ _
   | exact rb_.mono _ _ _
   | exact LeO.none _
   | refine LeO.ite ?_ ?_
   | refine LeO.bind ?_ (fun _ => ?_)
set_option maxHeartbeats 8000000 in
set_option maxRecDepth 100000 in
theorem nb_.calls (k : Nat) (A0 : Option Addr) (c0 : Nat) (l0 : List Int) (r1 : List Int) (r2 : Int) (w : World) (hr0 : Kd.C (Kd.int .i64) w A0 l0.length l0) (hc0 : l0.length ≤ c0) (h : nb_.f k l0 = some (r1, r2)) :
  Calls Tryd.prog 25 #[.slice A0 l0.length c0] w fun e w' => ∃ v0_ : Value, e = .returned (.tuple #[v0_, .int .i64 r2]) ∧ Kd.R (Kd.int .i64) 3 w' w.heap.size (fun _ => True) v0_ r1 ∧ Below w.heap.size w w' := by
 have HR0 := ba_.mk hr0
 have HC0 := ba_.mk hc0
 clear hr0 hc0
 have HB := ba_.mk (Below.refl w.heap.size w)
 have H : ((zl_.f l0).bind fun t104 => ((nf_.f t104 (-1)).bind fun t107 => (if t107 = true then ((rb_.f k l0 (-1)).bind fun t108 => (nb_.j0 k l0 t104 t108)) else (nb_.j0 k l0 t104 true)))) = some (r1, r2) := h
 clear h
 replace H := Option.bind_eq_some_iff.mp H
 obtain ⟨t104, A20, H⟩ := H
 replace H : ((nf_.f t104 (-1)).bind fun t107 => (if t107 = true then ((rb_.f k l0 (-1)).bind fun t108 => (nb_.j0 k l0 t104 t108)) else (nb_.j0 k l0 t104 true))) = some (r1, r2) := H
 have A2 := ba_.mk A20
 clear A20
 have HC3 := ba_.mk H
 clear H
 go_enter Tryd.func25, Tryd.ntmps25
 go_upto_region 2 with (first | ((with_reducible refine hc_ (N := 8) rfl ?_); refine Kd.ai_ (Kd.int .i64) w.heap.size 3 rfl (N := 8) rfl (xs := ([-1] : List Int)) (inner := [.int .i64 (-1)]) (ok := fun _ => True) (okp := fun _ => True) ?hr ?hp (fun _ hk => hk) trivial HB.out (Nat.le_refl _) (by simp) ?_; (case hr => first | (go_simp; done) | (go_simp; rfl)); (case hp => exact (Reps.one (show Kd.M (Kd.int .i64) _ _ _ (-1) [.int .i64 (-1)] from rfl) (Reps.none _ _))); intro v8 w8 ho hb hg_ hnew_; clear hg_ hnew_; clear HB; obtain ⟨g8, co8, eo8, _, _, _⟩ := Kd.yf_ ho (by decide); subst eo8; have HOa := ba_.mk ho; have HB := ba_.mk hb; clear ho hb) | ((with_reducible refine la_ (f := 37) rfl ?_); refine wb_ (some 9) rfl rfl Tryd.func37 (by kernel_rfl) rfl #[.slice (some ⟨g8, 0, none⟩) 1 co8, .int .i64 6] rfl (by (try simp only [List.map_toArray, List.map_cons, List.map_nil]); first | done | rfl) ?_; (refine (im_ (some ⟨g8, 0, none⟩) co8 (-1) _ (Kd.lb_ HOa.out).2.2 (Kd.lb_ HOa.out).2.1).mono ?_); rintro e w9 ⟨v9, rfl, ho, hb⟩; refine ⟨_, rfl, ?_⟩; obtain ⟨A9, co9, eo9⟩ := Kd.nc_ ho; subst eo9; have HOb := ba_.mk ho; have n1_ := ba_.mk (pa_ HB.out hb); clear HB; have HB := n1_; clear n1_ ho hb) | ((with_reducible refine hc_ (N := 10) rfl ?_); refine ag_ (v := .slice (some ⟨w9.heap.size, 0, none⟩) 2 2) (w1 := w9.alloc (.cells #[.slice A0 l0.length c0, .slice A9 6 co9] 22)) rfl ?hr ?_; (case hr => first | (go_simp; done) | (go_simp; rfl))) | ((with_reducible refine la_ (f := 36) rfl ?_); refine wb_ (some 11) rfl rfl Tryd.func36 (by kernel_rfl) rfl #[.slice (some ⟨w9.heap.size, 0, none⟩) 2 2] rfl (by (try simp only [List.map_toArray, List.map_cons, List.map_nil]); first | done | rfl) ?_; (refine (ng_ A0 c0 l0 A9 co9 (List.replicate 6 (-1 : Int)) w9 (Kd.rd_ HR0.out HB.out) HC0.out (Kd.lb_ HOb.out).2.2 (Kd.lb_ HOb.out).2.1 (by have := (zl_.some A2.out).2; simp only [List.length_replicate]; omega)).mono ?_); rintro e w10 ⟨v105, rfl, ho0, hb⟩; refine ⟨_, rfl, ?_⟩; have n0_ := ba_.mk (show Kd.R (Kd.int .i64) 3 w10 w.heap.size (fun _ => True) v105 t104 from by rw [(zl_.some A2.out).1]; exact Kd.wc_ ho0 (wa_ HB.out)); have n1_ := ba_.mk (pa_ HB.out hb); clear HB; have HO106 := n0_; have HB := n1_; clear n0_ n1_ ho0 hb))
 (try simp only [Act.put, List.setIfInBounds_toArray, List.set_cons_zero, List.set_cons_succ])
 go_cut [18] (fun v18 wc => ∃ (kq : Nat) (x18_2 : Bool), v18 = .bool x18_2 ∧ ba_ (nb_.j0 kq l0 t104 x18_2 = some (r1, r2)) ∧ ba_ (kq ≤ k) ∧ ba_ (Kd.R (Kd.int .i64) 3 wc w.heap.size (fun _ => True) v105 t104) ∧ ba_ (Below w.heap.size w wc))
 case first =>
  have H := HC3.out
  clear HC3
  replace H := Option.bind_eq_some_iff.mp H
  obtain ⟨t107, A50, H⟩ := H
  replace H : (if t107 = true then ((rb_.f k l0 (-1)).bind fun t108 => (nb_.j0 k l0 t104 t108)) else (nb_.j0 k l0 t104 true)) = some (r1, r2) := H
  have A5 := ba_.mk A50
  clear A50
  by_cases c6 : t107 = true
  ·subst c6
   have H1 : ((rb_.f k l0 (-1)).bind fun t108 => (nb_.j0 k l0 t104 t108)) = some (r1, r2) := by rw [if_pos rfl] at H; exact H
   clear H
   have H := H1
   clear H1
   replace H := Option.bind_eq_some_iff.mp H
   obtain ⟨t108, A70, H⟩ := H
   replace H : (nb_.j0 k l0 t104 t108) = some (r1, r2) := H
   have A7 := ba_.mk A70
   clear A70
   have H' := ba_.mk H
   clear H
   obtain ⟨Ao8, co8, eo8⟩ := Kd.nc_ HO106.out
   subst eo8
   go_wp2_with (first | ((with_reducible refine la_ (f := 38) rfl ?_); refine wb_ (some 13) rfl rfl Tryd.func38 (by kernel_rfl) rfl #[.slice Ao8 t104.length co8, .int .i64 (-1)] rfl (by (try simp only [List.map_toArray, List.map_cons, List.map_nil]); first | done | rfl | (simp only [List.length_drop, List.length_take]; rfl)) ?_; (with_reducible refine (nf_.calls _ _ t104 (-1) true _ ?side1 ?side2 A5.out).mono ?_); (case side1 => repeat (first | exact (Kd.lb_ HO106.out).2.2 | (with_reducible refine Kd.zc_ ?_ _) | (with_reducible refine Kd.ad_ ?_ _) | (with_reducible refine Kd.md_ ?_))); (case side2 => exact (Kd.lb_ HO106.out).2.1); rintro e w9 ⟨rfl, hb⟩; refine ⟨_, rfl, ?_⟩; have n0_ := ba_.mk (Kd.vc_ (by (with_reducible repeat (first | apply Kd.ta_ | apply Kd.ua_ | apply Kd.db_)); exact HO106.out) hb); have n1_ := ba_.mk (pa_ (by repeat (first | (with_reducible first | exact HB.out | apply da_ | apply aa_ | apply ca_) | exact HB.out)) hb); clear HO106; clear HB; have HO106 := n0_; have HB := n1_; clear n0_ n1_; (try clear hb); (try clear hb2); (try clear hk); (try clear hi)) | (go_at_call 39; (with_reducible refine (rb_.calls k _ _ l0 (-1) t108 _ ?side1 ?side2 A7.out).mono ?_); (case side1 => repeat (first | exact (Kd.rd_ HR0.out HB.out) | (with_reducible refine Kd.zc_ ?_ _) | (with_reducible refine Kd.ad_ ?_ _) | (with_reducible refine Kd.md_ ?_))); (case side2 => exact HC0.out); rintro e w' ⟨rfl, ⟨nd, rfl⟩⟩))
   go_meet
   case rel => exact ⟨_, (t108), (by first | rfl | (simp; done) | (simp [*]; done)), H', ⟨by first | omega | exact Nat.le_refl _⟩, ⟨by (with_reducible repeat (first | apply Kd.ta_ | apply Kd.ua_ | apply Kd.db_)); exact HO106.out⟩, ⟨by repeat (first | (with_reducible first | exact HB.out | apply da_ | apply aa_ | apply ca_) | exact HB.out)⟩⟩
  ·replace c6 := Bool.eq_false_iff.mpr c6
   subst c6
   have H1 : (nb_.j0 k l0 t104 true) = some (r1, r2) := by rw [if_neg (show ¬ (false = true) by decide)] at H; exact H
   clear H
   have H := H1
   clear H1
   have H' := ba_.mk H
   clear H
   obtain ⟨Ao10, co10, eo10⟩ := Kd.nc_ HO106.out
   subst eo10
   go_wp2_with (first | ((with_reducible refine la_ (f := 38) rfl ?_); refine wb_ (some 13) rfl rfl Tryd.func38 (by kernel_rfl) rfl #[.slice Ao10 t104.length co10, .int .i64 (-1)] rfl (by (try simp only [List.map_toArray, List.map_cons, List.map_nil]); first | done | rfl | (simp only [List.length_drop, List.length_take]; rfl)) ?_; (with_reducible refine (nf_.calls _ _ t104 (-1) false _ ?side1 ?side2 A5.out).mono ?_); (case side1 => repeat (first | exact (Kd.lb_ HO106.out).2.2 | (with_reducible refine Kd.zc_ ?_ _) | (with_reducible refine Kd.ad_ ?_ _) | (with_reducible refine Kd.md_ ?_))); (case side2 => exact (Kd.lb_ HO106.out).2.1); rintro e w11 ⟨rfl, hb⟩; refine ⟨_, rfl, ?_⟩; have n0_ := ba_.mk (Kd.vc_ (by (with_reducible repeat (first | apply Kd.ta_ | apply Kd.ua_ | apply Kd.db_)); exact HO106.out) hb); have n1_ := ba_.mk (pa_ (by repeat (first | (with_reducible first | exact HB.out | apply da_ | apply aa_ | apply ca_) | exact HB.out)) hb); clear HO106; clear HB; have HO106 := n0_; have HB := n1_; clear n0_ n1_; (try clear hb); (try clear hb2); (try clear hk); (try clear hi)))
   go_meet
   case rel => exact ⟨_, (true), (by first | rfl | (simp; done) | (simp [*]; done)), H', ⟨by first | omega | exact Nat.le_refl _⟩, ⟨by (with_reducible repeat (first | apply Kd.ta_ | apply Kd.ua_ | apply Kd.db_)); exact HO106.out⟩, ⟨by repeat (first | (with_reducible first | exact HB.out | apply da_ | apply aa_ | apply ca_) | exact HB.out)⟩⟩
 case rest =>
  clear HC3
  try clear c2
  try clear p2
  try clear c3
  try clear c6
  obtain ⟨kq, x18_2, rfl, HA, HJ2, HO_4, HB⟩ := hcut
  cases kq with
  | zero => exact absurd HA.out (by simp [nb_.j0])
  | succ kj2 =>
   have H := HA.out
   clear HA
   simp only [nb_.j0] at H
   by_cases c12 : x18_2 = true
   ·subst c12
    have H1 : (some (([] : List Int), 2)) = some (r1, r2) := by rw [if_pos rfl] at H; exact H
    clear H
    have H := H1
    clear H1
    simp only [Option.some.injEq, Prod.mk.injEq] at H
    obtain ⟨rfl, rfl⟩ := H
    go_wp2
    go_ret2
    exact ⟨_, by first | rfl | (simp [xa_, ya_] <;> rfl) | (simp [*, xa_, ya_] <;> rfl), by first | exact Kd.ue_ _ _ _ _ _ | exact Kd.qg_ _ _ _ _ _ | exact Kd.ug_ _ _ _ _ _ | exact Kd.rg_ _ _ _ _ _ | exact Kd.tg_ _ _ _ _ _, by repeat (first | (with_reducible first | exact HB.out | apply da_ | apply aa_ | apply ca_) | exact HB.out)⟩
   ·replace c12 := Bool.eq_false_iff.mpr c12
    subst c12
    have H1 : (if 6 ≤ 35184372088832 then ((some (List.replicate 6 0 : List Int)).bind fun y109 => (nb_.l0 kj2 l0 t104 y109 (y109.length : Int) 0)) else (none)) = some (r1, r2) := by rw [if_neg (show ¬ (false = true) by decide)] at H; exact H
    clear H
    have H := H1
    clear H1
    by_cases c13 : 6 ≤ 35184372088832
    ·rw [if_pos c13] at H
     have c13b0 := eq_true c13
     have c13b1 : decide (6 ≤ 35184372088832) = true := decide_eq_true c13
     clear c13
     obtain ⟨y109, hy109⟩ : ∃ y_ : List Int, y_ = (List.replicate 6 0) := ⟨_, rfl⟩
     replace H : (nb_.l0 kj2 l0 t104 y109 (y109.length : Int) 0) = some (r1, r2) := by first | (rw [hy109]; with_reducible exact H) | (have H2_ := (Option.bind_some _ _).symm.trans H; rw [hy109]; with_reducible exact H2_) | (have H2_ := (Option.bind_some _ _).symm.trans H; with_reducible exact H2_) | with_reducible exact H | (rw [hy109]; exact H) | exact H
     have Ny109 := ba_.mk hy109
     clear hy109
     have H' := ba_.mk H
     clear H
     go_wp2_with (first | ((with_reducible refine hc_ (N := 19) rfl ?_); refine Kd.kk_ (Kd.int .i64) _ 3 rfl (N := 19) rfl 22 _ _ rfl 6 rfl rfl Tryd.underlying22 (.int .i64 0) 8 ii_ rfl (by decide) (by omega) 0 (ok := fun _ => True) (okp := fun _ => True) rfl (fun _ hk => hk) trivial (by omega) (by omega) (Below.refl _ _) (Nat.le_refl _) ?_; intro v110 w14 ho15 hb hg_ hnew_; clear hg_ hnew_; (first | rw [← Ny109.out] at ho15 | (simp only [Int.reduceToNat] at ho15; rw [← Ny109.out] at ho15)); have n0_ := ba_.mk (Kd.gd_ (by (with_reducible repeat (first | apply Kd.ta_ | apply Kd.ua_ | apply Kd.db_)); exact HO_4.out) (Kd.be_ ho15) hb); have n1_ := ba_.mk (Kd.wc_ (Kd.yd_ ho15 (Kd.R_lt (by (with_reducible repeat (first | apply Kd.ta_ | apply Kd.ua_ | apply Kd.db_)); exact HO_4.out))) (wa_ (by repeat (first | (with_reducible first | exact HB.out | apply da_ | apply aa_ | apply ca_) | exact HB.out)))); have n2_ := ba_.mk (pa_ (by repeat (first | (with_reducible first | exact HB.out | apply da_ | apply aa_ | apply ca_) | exact HB.out)) hb); clear HO_4; clear HB; have HO_4 := n0_; have HO111 := n1_; have HB := n2_; clear n0_ n1_ n2_; clear hb ho15; obtain ⟨Ao16, co16, eo16⟩ := Kd.nc_ HO111.out; subst eo16))
     go_loopg [22] kj2 (fun kq v22 w' => ∃ (x5_2 : List Int) (x22_2 : Int), v22 = .int .i64 x22_2 ∧ ba_ (nb_.l0 kq l0 t104 x5_2 (y109.length : Int) x22_2 = some (r1, r2)) ∧ ba_ (kq ≤ kj2) ∧ ba_ (Kd.R (Kd.int .i64) 3 w' w.heap.size (fun k_ => some k_ ≠ ((.slice Ao16 y109.length co16) : Value).ownBlock) v105 t104) ∧ ba_ (Kd.R (Kd.int .i64) 3 w' w.heap.size (fun k_ => some k_ ≠ (v105 : Value).ownBlock) (.slice Ao16 y109.length co16) x5_2) ∧ ba_ (Below w.heap.size w w'))
     case atStart => exact ⟨(y109), (0), (by first | rfl | (simp; done) | (simp [*]; done)), H', ⟨Nat.le_refl _⟩, ⟨by (with_reducible repeat (first | apply Kd.ta_ | apply Kd.ua_ | apply Kd.db_)); exact Kd.uc_ HO_4.out (fun _ hk => hk.2)⟩, ⟨by (with_reducible repeat (first | apply Kd.ta_ | apply Kd.ua_ | apply Kd.db_)); exact Kd.uc_ HO111.out (fun _ hk => hk.2)⟩, ⟨by repeat (first | (with_reducible first | exact HB.out | apply da_ | apply aa_ | apply ca_) | exact HB.out)⟩⟩
     case round =>
      clear H'
      try clear c1
      try clear c2
      try clear p2
      try clear c3
      try clear c6
      try clear c12
      try clear c13
      try clear c13b0
      try clear c13b1
      try clear p2
      obtain ⟨x5_2, x22_2, rfl, HA, HK2, HO_4, HO_5, HB⟩ := hrel
      have hl5_2 := (Kd.lb_ HO_5.out).1
      rw [hl5_2] at HO_5
      (try simp only [hl5_2])
      (try simp only [hl5_2] at HO_4)
      cases gk with
      | zero => exact absurd HA.out (by simp [nb_.l0])
      | succ k2 =>
       have H := HA.out
       clear HA
       simp only [nb_.l0] at H
       by_cases c17 : x22_2 < (y109.length : Int)
       ·rw [if_pos c17] at H
        have c17b0 : decide (x22_2 < (y109.length : Int)) = true := decide_eq_true c17
        (try simp only [hl5_2] at c17b0)
        clear c17
        by_cases c18 : 0 ≤ x22_2
        ·rw [if_pos c18] at H
         have c18b0 : decide (0 ≤ x22_2) = true := decide_eq_true c18
         clear c18
         by_cases c19 : x22_2 < (x5_2.length : Int)
         ·rw [if_pos c19] at H
          have c19b0 : decide (x22_2 < (x5_2.length : Int)) = true := decide_eq_true c19
          clear c19
          obtain ⟨y112, hy112⟩ : ∃ y_ : List Int, y_ = (x5_2.set (x22_2 : Int).toNat (wrap64 ((l0.length : Int) + x22_2))) := ⟨_, rfl⟩
          replace H : (nb_.l0 k2 l0 t104 y112 (y109.length : Int) (wrap64 (x22_2 + 1))) = some (r1, r2) := by first | (rw [hy112]; with_reducible exact H) | (have H2_ := (Option.bind_some _ _).symm.trans H; rw [hy112]; with_reducible exact H2_) | (have H2_ := (Option.bind_some _ _).symm.trans H; with_reducible exact H2_) | with_reducible exact H | (rw [hy112]; exact H) | exact H
          have Ny112 := ba_.mk hy112
          clear hy112
          have H' := ba_.mk H
          clear H
          have p20 : 0 ≤ (x22_2 : Int) := of_decide_eq_true (by first | (with_reducible assumption) | assumption)
          have q20 : (x22_2 : Int) < ((x5_2.length : Int) : Int) := of_decide_eq_true (by first | (with_reducible assumption) | assumption)
          obtain ⟨go20, co20, eo20, gb20, gl20, cl20, HG20⟩ := Kd.yf_ HO_5.out (by omega)
          (first | cases eo20 | (injection eo20 with ea_ en_ ec_; (first | subst ea_ | (injection ea_ with ea_; subst ea_)); subst ec_; clear en_))
          have GB20 := ba_.mk gb20
          have GG20 := ba_.mk HG20
          clear gb20 gl20 HG20
          obtain ⟨hx20_0, hf20_0⟩ := Kd.hf_ 0 HO_5.out (x22_2 : Int) p20 q20
          replace p20 := eq_true p20
          replace q20 := eq_true q20
          have HP21 := Kd.R_putg HO_5.out (x22_2 : Int) (wrap64 ((l0.length : Int) + x22_2))
          go_wp2_with (first | ((with_reducible refine gn_ (t := 3) (p := 31) rfl ?_); refine lm_ (t := 3) (p := 31) (v := ?vo_w22) (w1 := (wr.setCell ⟨go20, (x22_2 : Int).toNat, none⟩ (.int .i64 (wrap64 ((l0.length : Int) + x22_2))))) ?hg ?ho ?hn ?hr ?_; (case ho => rfl); (case hg => rfl); (case hn => rfl); (case hr => first | (go_simp; done) | (go_simp; rfl)); intro w22 hw; have hg : wr.grownBy w22 (some go20) := (by rw [hw]; exact HP21.2); have hp_ : Kd.R (Kd.int .i64) 3 w22 w.heap.size (fun k_ => some k_ ≠ (v105 : Value).ownBlock) (.slice (some ⟨go20, 0, none⟩) x5_2.length co16) y112 := (by rw [hw, Ny112.out]; exact HP21.1); clear HP21; have n0_ := ba_.mk (Kd.rj_ (v := (.slice (some ⟨go20, 0, none⟩) x5_2.length co16)) (v1 := (.slice (some ⟨go20, 0, none⟩) x5_2.length co16)) (ok := (fun _ => True)) (by (with_reducible repeat (first | apply Kd.ta_ | apply Kd.ua_ | apply Kd.db_)); exact Kd.uc_ HO_4.out (fun _ hk => ⟨trivial, hk⟩)) hg (.inl rfl)); have n1_ := ba_.mk (hp_); have n2_ := ba_.mk ((by rw [hw]; exact ia_ (HB.out) GB20.out : Below w.heap.size w w22)); clear HO_4; clear HO_5; clear HB; have HO_4 := n0_; have HO_5 := n1_; have HB := n2_; clear n0_ n1_ n2_; clear hg hw hp_))
          (try simp only [← hl5_2])
          go_roundg k2
          case measure => have := HJ2.out; have := HK2.out; omega
          case rel => exact ⟨(y112), (wrap64 (x22_2 + 1)), (by first | rfl | (simp; done) | (simp [*]; done)), H', ⟨by have := HJ2.out; have := HK2.out; omega⟩, ⟨by (try simp only [hl5_2]); (with_reducible repeat (first | apply Kd.ta_ | apply Kd.ua_ | apply Kd.db_)); exact Kd.uc_ HO_4.out (fun _ hk => hk.2)⟩, ⟨by (try simp only [hl5_2]); (with_reducible repeat (first | apply Kd.ta_ | apply Kd.ua_ | apply Kd.db_)); exact HO_5.out⟩, ⟨by repeat (first | (with_reducible first | exact HB.out | apply da_ | apply aa_ | apply ca_) | exact HB.out)⟩⟩
         ·rw [if_neg c19] at H
          exact absurd H (by simp)
        ·rw [if_neg c18] at H
         exact absurd H (by simp)
       ·rw [if_neg c17] at H
        have c17b0 : decide (x22_2 < (y109.length : Int)) = false := decide_eq_false c17
        (try simp only [hl5_2] at c17b0)
        clear c17
        replace H := Option.bind_eq_some_iff.mp H
        obtain ⟨t113, A230, H⟩ := H
        replace H : (some (t113, 0)) = some (r1, r2) := H
        have A23 := ba_.mk A230
        clear A230
        simp only [Option.some.injEq, Prod.mk.injEq] at H
        obtain ⟨rfl, rfl⟩ := H
        obtain ⟨Ao24, co24, eo24⟩ := Kd.nc_ HO_4.out
        subst eo24
        go_wp2_with (first | ((with_reducible refine la_ (f := 40) rfl ?_); refine wb_ (some 35) rfl rfl Tryd.func40 (by kernel_rfl) rfl #[.slice Ao24 t104.length co24, .slice Ao16 x5_2.length co16] rfl (by (try simp only [List.map_toArray, List.map_cons, List.map_nil]); first | done | rfl | (simp only [List.length_drop, List.length_take]; rfl)) ?_; (with_reducible refine (mf_.calls _ _ t104 _ _ x5_2 t113 _ ?side1 ?side2 ?side3 ?side4 A23.out).mono ?_); (case side1 => repeat (first | exact (Kd.lb_ HO_4.out).2.2 | (with_reducible refine Kd.zc_ ?_ _) | (with_reducible refine Kd.ad_ ?_ _) | (with_reducible refine Kd.md_ ?_))); (case side2 => exact (Kd.lb_ HO_4.out).2.1); (case side3 => repeat (first | exact (Kd.lb_ HO_5.out).2.2 | (with_reducible refine Kd.zc_ ?_ _) | (with_reducible refine Kd.ad_ ?_ _) | (with_reducible refine Kd.md_ ?_))); (case side4 => exact (Kd.lb_ HO_5.out).2.1); rintro e w25 ⟨v114, rfl, ho0, hb⟩; refine ⟨_, rfl, ?_⟩; have n0_ := ba_.mk (Kd.gd_ (by (with_reducible repeat (first | apply Kd.ta_ | apply Kd.ua_ | apply Kd.db_)); exact HO_4.out) (Kd.be_ ho0) hb); have n1_ := ba_.mk (Kd.gd_ (by (with_reducible repeat (first | apply Kd.ta_ | apply Kd.ua_ | apply Kd.db_)); exact HO_5.out) (Kd.be_ ho0) hb); have n2_ := ba_.mk (Kd.wc_ (Kd.yd_ (Kd.yd_ ho0 (Kd.R_lt (by (with_reducible repeat (first | apply Kd.ta_ | apply Kd.ua_ | apply Kd.db_)); exact HO_4.out))) (Kd.R_lt (by (with_reducible repeat (first | apply Kd.ta_ | apply Kd.ua_ | apply Kd.db_)); exact HO_5.out))) (wa_ (by repeat (first | (with_reducible first | exact HB.out | apply da_ | apply aa_ | apply ca_) | exact HB.out)))); have n3_ := ba_.mk (pa_ (by repeat (first | (with_reducible first | exact HB.out | apply da_ | apply aa_ | apply ca_) | exact HB.out)) hb); clear HO_4; clear HO_5; clear HB; have HO_4 := n0_; have HO_5 := n1_; have HO115 := n2_; have HB := n3_; clear n0_ n1_ n2_ n3_; (try clear hb); (try clear hb2); (try clear hk); (try clear hi); (try clear ho0)))
        go_ret2
        exact ⟨_, by first | rfl | (simp [xa_, ya_] <;> rfl) | (simp [*, xa_, ya_] <;> rfl), by (with_reducible repeat (first | apply Kd.ta_ | apply Kd.ua_ | apply Kd.db_)); exact Kd.uc_ HO115.out (fun _ hk => trivial), by repeat (first | (with_reducible first | exact HB.out | apply da_ | apply aa_ | apply ca_) | exact HB.out)⟩
    ·rw [if_neg c13] at H
     exact absurd H (by simp)
def ac_.f (a0 : Int) : Option (Int) := if (wrap64 (a0 * 2)) ≥ 32 then (some (Go.bits .xor .i64 (wrap64 (a0 * 2)) 37)) else (some (wrap64 (a0 * 2)))
set_option maxHeartbeats 8000000 in
set_option maxRecDepth 100000 in
theorem ac_.calls (a0 : Int) (r : Int) (w : World) (h : ac_.f a0 = some r) :
  Calls Tryd.prog 82 #[.int .i64 a0] w fun e w' => e = .returned (.int .i64 r) ∧ gb_ w w' := by
 have H : (if (wrap64 (a0 * 2)) ≥ 32 then (some (Go.bits .xor .i64 (wrap64 (a0 * 2)) 37)) else (some (wrap64 (a0 * 2)))) = some r := h
 clear h
 by_cases c2 : (wrap64 (a0 * 2)) ≥ 32
 ·rw [if_pos c2] at H
  have c2b0 : decide (32 ≤ (wrap64 (a0 * 2))) = true := decide_eq_true c2
  clear c2
  obtain rfl := Option.some.inj H
  go_enter Tryd.func82, Tryd.ntmps82
  go_wp2
  go_ret
  exact ⟨by first | rfl | (simp; done) | (simp [*]; done), by repeat (first | exact gb_.refl _ | apply gb_.step)⟩
 ·rw [if_neg c2] at H
  have c2b0 : decide (32 ≤ (wrap64 (a0 * 2))) = false := decide_eq_false c2
  clear c2
  obtain rfl := Option.some.inj H
  go_enter Tryd.func82, Tryd.ntmps82
  go_wp2
  go_ret
  exact ⟨by first | rfl | (simp; done) | (simp [*]; done), by repeat (first | exact gb_.refl _ | apply gb_.step)⟩
end Go.Proofs.YtpkhgapifnjbeaaDoor.E
end
section
namespace Go.Proofs.YtpkhgapifnjbeaaDoor.E
open Go.RowKit Go.Proofs.YtpkhgapifnjbeaaDoor.G Go.Proofs.YtpkhgapifnjbeaaDoor.Rs Go.Proofs.YtpkhgapifnjbeaaDoorW.PrintWords Go.Proofs.YtpkhgapifnjbeaaDoorW.PrintLast Go.Proofs.YtpkhgapifnjbeaaDoorW.PrintMore
attribute [local go_sem] qc_ sc_ cd_ dd_ jc_ kc_ rc_ tc_
set_option linter.unusedVariables false
set_option linter.unusedSimpArgs false
end Go.Proofs.YtpkhgapifnjbeaaDoor.E
end
section
namespace Go.Proofs.YtpkhgapifnjbeaaDoor.D
open Go.RowKit Go.Proofs.YtpkhgapifnjbeaaDoor.G Go.Proofs.YtpkhgapifnjbeaaDoor.Rs Go.Proofs.YtpkhgapifnjbeaaDoorW.PrintWords Go.Proofs.YtpkhgapifnjbeaaDoorW.PrintLast Go.Proofs.YtpkhgapifnjbeaaDoorW.PrintMore
attribute [local go_sem] qc_ sc_ cd_ dd_ jc_ kc_ rc_ tc_
set_option linter.unusedVariables false
set_option linter.unusedSimpArgs false
def errW : Option Int → Value
 | none => .nilIface
 | some c => .iface 0 (.int .i64 c)
theorem xa_ : errW none = .nilIface := rfl
theorem ya_ (c : Int) : errW (some c) = .iface 0 (.int .i64 c) := rfl
theorem ii_ : (Tryd.prog.info? 3).map (fun i => (i.zero, i.size, i.bytes)) = some (some (.int .i64 0), 1, 8) := by kernel_rfl
def ke_ (xs : List (List Int)) (i : Int) : (List Int) := xs.getD i.toNat ([] : List Int)
theorem bo_ {w : World} {A : Option Addr} {n : Nat} {xs : List (List Int)} (h : Kd.C (Kd.slice 3 (Kd.int .i64)) w A n xs) (i : Int) (h0 : 0 ≤ i) (h1 : i < n) : ∃ ad A0 c0, A = some ad ∧ w.cell? (ad.add i.toNat) = some (.slice A0 (ke_ xs i).length c0) ∧ (ke_ xs i).length ≤ c0 ∧ (Kd.int .i64).C w A0 (ke_ xs i).length (ke_ xs i) := by
 obtain ⟨ad, c, e, _, hK, hc0⟩ := Kd.eh_ h ([] : List Int) i h0 h1
 have hc : ∀ j u, c[j]? = some u → w.cell? (ad.add (i.toNat * 1 + j)) = some u := hc0
 obtain ⟨A0, c0, rfl, l0, g0⟩ := hK
 exact ⟨ad, A0, c0, e, by have hq := hc 0 _ rfl; rwa [Nat.mul_one, Nat.add_zero] at hq, l0, g0⟩
end Go.Proofs.YtpkhgapifnjbeaaDoor.D
end
