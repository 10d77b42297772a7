/- Put together by pack2.py. -/
import Derived.Test.YtpkhgapifnjbeaaGreatDoorProg
import Derived.Below
import Derived.Deep.Draws
import Derived.Deep.AppendLies
import Derived.Maps.AppendAt
import Derived.OwnWalk
import Derived.Laws.BytesArg
import Derived.Laws.MakeOwn
import Derived.Laws.OwnMore
import Derived.Deep.OwnRows
import Derived.Tactics
import Derived.Lib.ConvBytes
import Derived.Laws.Slices
import Derived.WalkKit
import Derived.KernelRfl
import Derived.RowKit3
import Derived.Deep.LoopGhost
import Derived.Deep.QuietTactic
import Derived.BigQuiet
import Derived.WideLaws
import Derived.Deep.DeepCutAuto
import Derived.Deep.CutBlock
import Derived.Deep.RegionHeld3
import Derived.Laws.Rows
import Derived.Lib.AppendStr
import Derived.ArgAppend
import Derived.Laws.IdiomCopy
import Derived.OrdersHeld
import Derived.Laws.BitsLemmas
import Derived.RowKit
import Derived.Deep.WholeRow
import Derived.Outline
import Derived.LoopTactic
import Derived.Test.YtpkhgapifnjbeaaGreatDoorXB1
set_option linter.unusedVariables false
set_option linter.unusedSimpArgs false
section
namespace Go.Proofs.YtpkhgapifnjbeaaGreatDoor.F
open RowKit G Zw.PrintWords Zw.PrintLast Zw.PrintMore
attribute [local go_sem] id_ kd_ vd_ wd_ bd_ cd_ jd_ ld_
def nc_.f (a0 : Int) : Option (Int) := if (wrap64 (a0 * 2)) ≥ 32 then (some (Go.bits .xor .i64 (wrap64 (a0 * 2)) 37)) else (some (wrap64 (a0 * 2)))
set_option maxHeartbeats 8000000 in
set_option maxRecDepth 100000 in
theorem nc_.calls (a0 : Int) (r : Int) (w : World) (h : nc_.f a0 = some r) :
  Calls Tryz.prog 114 #[.int .i64 a0] w fun e w' => e = .returned (.int .i64 r) ∧ ja_ w w' := by
 have H : (if (wrap64 (a0 * 2)) ≥ 32 then (some (Go.bits .xor .i64 (wrap64 (a0 * 2)) 37)) else (some (wrap64 (a0 * 2)))) = some r := h
 clear h
 by_cases c2 : (wrap64 (a0 * 2)) ≥ 32
 ·exact Xg
 ·exact Xh
def sc_.f (a0 : Int) : Option (Bool) := if a0 ≥ 0 then (some (decide (a0 < 32))) else (some false)
set_option maxHeartbeats 8000000 in
set_option maxRecDepth 100000 in
theorem sc_.calls (a0 : Int) (r : Bool) (w : World) (h : sc_.f a0 = some r) :
  Calls Tryz.prog 112 #[.int .i64 a0] w fun e w' => e = .returned (.bool r) ∧ ja_ w w' := by
 have H : (if a0 ≥ 0 then (some (decide (a0 < 32))) else (some false)) = some r := h
 clear h
 by_cases c2 : a0 ≥ 0
 ·exact Xx
 ·exact Xy
def pa_.l0 : Nat → Int → Int → Int → Option (Int)
 | 0, _, _, _ => none
 | k + 1, x0, x3, x5 => if x5 < 31 then (if x3 = x0 then (some x5) else ((nc_.f x3).bind fun t101 => (pa_.l0 k x0 t101 (wrap64 (x5 + 1))))) else (some 0)
def pa_.f (k : Nat) (a0 : Int) : Option (Int) := pa_.l0 k a0 1 0
theorem pa_.yc_ : ∀ k, (∀ y0 y1 y2, LeO (pa_.l0 k y0 y1 y2) (pa_.l0 (k + 1) y0 y1 y2))
 | 0 => fun _ _ _ r h => by simp [pa_.l0] at h
 | k + 1 => by
  have ih0 := pa_.yc_ k
  intro y0 y1 y2
  unfold pa_.l0
  repeat' first
  | (with_reducible exact ih0 _ _ _)
  | (with_reducible first | exact LeO.refl _ | exact LeO.none _ | refine LeO.ite ?_ ?_ | refine LeO.bind ?_ (fun _ => ?_))
  | exact ih0 _ _ _
  | exact LeO.none _
  | refine LeO.ite ?_ ?_
  | refine LeO.bind ?_ (fun _ => ?_)
theorem pa_.mono : ∀ a0 k, LeO (pa_.f k a0) (pa_.f (k + 1) a0) := by
 intro a0 k
 have ih0 := pa_.yc_ k
 unfold pa_.f
 repeat' first
   | (with_reducible exact ih0 _ _ _)
   | (with_reducible first | exact LeO.refl _ | exact LeO.none _ | refine LeO.ite ?_ ?_ | refine LeO.bind ?_ (fun _ => ?_))
   | exact ih0 _ _ _
   | exact LeO.none _
   | refine LeO.ite ?_ ?_
   | refine LeO.bind ?_ (fun _ => ?_)
set_option maxHeartbeats 8000000 in
set_option maxRecDepth 100000 in
theorem pa_.calls (k : Nat) (a0 : Int) (r : Int) (w : World) (h : pa_.f k a0 = some r) :
  Calls Tryz.prog 113 #[.int .i64 a0] w fun e w' => e = .returned (.int .i64 r) ∧ ja_ w w' := by
 have H : (pa_.l0 k a0 1 0) = some r := h
 clear h
 have H' := ba_.mk H
 clear H
 go_enter Tryz.func113, Tryz.ntmps113
 go_wp2
 go_loopg [3, 5] k (fun kq v3 v5 w' => ∃ (x3_1 : Int) (x5_1 : Int), v3 = .int .i64 x3_1 ∧ v5 = .int .i64 x5_1 ∧ ba_ (pa_.l0 kq a0 x3_1 x5_1 = some r) ∧ ba_ (kq ≤ k) ∧ ja_ w w')
 case atStart => exact Xs
 case round =>
  clear H'
  try clear c1
  obtain ⟨x3_1, x5_1, rfl, rfl, HA, HK1, ⟨m1, rfl⟩⟩ := hrel
  cases gk with
  | zero => exact absurd HA.out (by simp [pa_.l0])
  | succ k1 =>
   have H := HA.out
   clear HA
   simp only [pa_.l0] at H
   by_cases c2 : x5_1 < 31
   rotate_left
   ·exact Xo
   rw [if_pos c2] at H
   have c2b0 := decide_eq_true c2
   clear c2
   by_cases c3 : x3_1 = a0
   ·exact Xz
   rw [if_neg c3] at H
   have c3b0 : (x3_1 == a0) = false := beq_eq_false_iff_ne.mpr c3
   have c3b1 : (x3_1 != a0) = true := bne_iff_ne.mpr c3
   obtain ⟨t101, A4, H⟩ := Qk H
   try dsimp only at H
   have H' := ba_.mk H
   clear H
   go_wp2_with (first | ((with_reducible refine ia_ (f := 114) rfl ?_); refine gc_ (some 13) rfl rfl Tryz.func114 Qb rfl #[.int .i64 x3_1] rfl Qj ?_; (with_reducible refine (nc_.calls x3_1 t101 _ A4.out).mono ?_); rintro e w' ⟨rfl, ⟨nd, rfl⟩⟩; refine ⟨_, rfl, ?_⟩))
   go_roundg k1
   case measure => have := HK1.out; omega
   case rel => exact ⟨(t101), (wrap64 (x5_1 + 1)), Qi, Qi, H', ⟨Qw⟩, Qp⟩
mutual
def fc_.l0 : Nat → List Int → List Int → List (List Int) → List Int → Int → Option (List Int)
 | 0, _, _, _, _, _ => none
 | k + 1, x0, x1, x5, x17, x18 => if x18 < 6 then (if 0 ≤ x18 then (if x18 < (x17.length : Int) then (fc_.l1 k x0 x1 x5 x18 (rd x17 x18) ([] : List Int) x17 x18 x1 (x1.length : Int) 0) else (none)) else (none)) else ((xh_.f x5).bind fun bt117 => (if bt117.2 = true then ((wh_.f x0).bind fun t121 => (fc_.l2 k x0 bt117.1 t121 x1 (x1.length : Int) 0)) else (some ([] : List Int))))
def fc_.l1 : Nat → List Int → List Int → List (List Int) → Int → Int → List Int → List Int → Int → List Int → Int → Int → Option (List Int)
 | 0, _, _, _, _, _, _, _, _, _, _, _ => none
 | k + 1, x0, x1, x5, x6, x7, x8, x17, x18, x22, x23, x24 => if x24 < x23 then (if 0 ≤ x24 then (if x24 < (x22.length : Int) then ((g_at.f x0 (rd x22 x24) (wrap64 (x6 + 1))).bind fun t107 => (if x8.length < 17592186044416 then (fc_.l1 k x0 x1 x5 x6 x7 (x8 ++ [t107]) x17 x18 x22 x23 (wrap64 (x24 + 1))) else (none))) else (none)) else (none)) else (if x8.length < 17592186044416 then (if x5.length < 5864062014805 then (fc_.l0 k x0 x1 (x5 ++ [(x8 ++ [x7])]) x17 (wrap64 (x18 + 1))) else (none)) else (none))
def fc_.l2 : Nat → List Int → List Int → List Int → List Int → Int → Int → Option (List Int)
 | 0, _, _, _, _, _, _ => none
 | k + 1, x0, x11, x13, x54, x55, x56 => if x56 < x55 then (if 0 ≤ x56 then (if x56 < (x54.length : Int) then (if 0 ≤ (rd x54 x56) then (if (rd x54 x56) < (x0.length : Int) then (if x56 < (x11.length : Int) then (if (rd x54 x56) < (x13.length : Int) then (fc_.l2 k x0 x11 (x13.set ((rd x54 x56) : Int).toNat (Go.bits .xor .i64 (mx (rd x0 (rd x54 x56)) 0) (rd x11 x56))) x54 x55 (wrap64 (x56 + 1))) else (none)) else (none)) else (none)) else (none)) else (none)) else (none)) else (some x13)
end
def fc_.f (k : Nat) (l0 : List Int) (l1 : List Int) : Option (List Int) := (ml_.f l0).bind fun t102 => (fc_.l0 k l0 l1 ([] : List (List Int)) t102 0)
theorem fc_.yc_ : ∀ k, (∀ y0 y1 y2 y3 y4, LeO (fc_.l0 k y0 y1 y2 y3 y4) (fc_.l0 (k + 1) y0 y1 y2 y3 y4)) ∧ (∀ y0 y1 y2 y3 y4 y5 y6 y7 y8 y9 y10, LeO (fc_.l1 k y0 y1 y2 y3 y4 y5 y6 y7 y8 y9 y10) (fc_.l1 (k + 1) y0 y1 y2 y3 y4 y5 y6 y7 y8 y9 y10)) ∧ (∀ y0 y1 y2 y3 y4 y5, LeO (fc_.l2 k y0 y1 y2 y3 y4 y5) (fc_.l2 (k + 1) y0 y1 y2 y3 y4 y5))
 | 0 => ⟨fun _ _ _ _ _ r h => by simp [fc_.l0] at h, fun _ _ _ _ _ _ _ _ _ _ _ r h => by simp [fc_.l1] at h, fun _ _ _ _ _ _ r h => by simp [fc_.l2] at h⟩
 | k + 1 => by
  obtain ⟨ih0, ih1, ih2⟩ := fc_.yc_ k
  refine ⟨?_, ?_, ?_⟩
  ·intro y0 y1 y2 y3 y4
   unfold fc_.l0
   repeat' first
   | (with_reducible exact ih0 _ _ _ _ _)
   | (with_reducible exact ih1 _ _ _ _ _ _ _ _ _ _ _)
   | (with_reducible exact ih2 _ _ _ _ _ _)
   | (with_reducible first | exact LeO.refl _ | exact LeO.none _ | refine LeO.ite ?_ ?_ | refine LeO.bind ?_ (fun _ => ?_))
   | exact ih0 _ _ _ _ _
   | exact ih1 _ _ _ _ _ _ _ _ _ _ _
   | exact ih2 _ _ _ _ _ _
   | exact LeO.none _
   | refine LeO.ite ?_ ?_
   | refine LeO.bind ?_ (fun _ => ?_)
  ·intro y0 y1 y2 y3 y4 y5 y6 y7 y8 y9 y10
   unfold fc_.l1
   repeat' first
   | (with_reducible exact ih0 _ _ _ _ _)
   | (with_reducible exact ih1 _ _ _ _ _ _ _ _ _ _ _)
   | (with_reducible exact ih2 _ _ _ _ _ _)
   | (with_reducible first | exact LeO.refl _ | exact LeO.none _ | refine LeO.ite ?_ ?_ | refine LeO.bind ?_ (fun _ => ?_))
   | exact ih0 _ _ _ _ _
   | exact ih1 _ _ _ _ _ _ _ _ _ _ _
   | exact ih2 _ _ _ _ _ _
   | exact LeO.none _
   | refine LeO.ite ?_ ?_
   | refine LeO.bind ?_ (fun _ => ?_)
  intro y0 y1 y2 y3 y4 y5
  unfold fc_.l2
  repeat' first
  | (with_reducible exact ih0 _ _ _ _ _)
  | (with_reducible exact ih1 _ _ _ _ _ _ _ _ _ _ _)
  | (with_reducible exact ih2 _ _ _ _ _ _)
  | (with_reducible first | exact LeO.refl _ | exact LeO.none _ | refine LeO.ite ?_ ?_ | refine LeO.bind ?_ (fun _ => ?_))
  | exact ih0 _ _ _ _ _
  | exact ih1 _ _ _ _ _ _ _ _ _ _ _
  | exact ih2 _ _ _ _ _ _
  | exact LeO.none _
  | refine LeO.ite ?_ ?_
  | refine LeO.bind ?_ (fun _ => ?_)
theorem fc_.mono : ∀ a0 a1 k, LeO (fc_.f k a0 a1) (fc_.f (k + 1) a0 a1) := by
 intro a0 a1 k
 obtain ⟨ih0, ih1, ih2⟩ := fc_.yc_ k
 unfold fc_.f
 repeat' first
   | (with_reducible exact ih0 _ _ _ _ _)
   | (with_reducible exact ih1 _ _ _ _ _ _ _ _ _ _ _)
   | (with_reducible exact ih2 _ _ _ _ _ _)
   | (with_reducible first | exact LeO.refl _ | exact LeO.none _ | refine LeO.ite ?_ ?_ | refine LeO.bind ?_ (fun _ => ?_))
   | exact ih0 _ _ _ _ _
   | exact ih1 _ _ _ _ _ _ _ _ _ _ _
   | exact ih2 _ _ _ _ _ _
   | exact LeO.none _
   | refine LeO.ite ?_ ?_
   | refine LeO.bind ?_ (fun _ => ?_)
def fc_.T20 : Bool × List (List Nat × List Nat) := (true, [([], []), ([], []), ([], []), ([], []), ([2, 3], [2, 3]), ([4], [4]), ([5], [5]), ([], []), ([], []), ([7, 8], [7, 8]), ([9], [9]), ([6, 10], [6, 10]), ([0, 1, 0, 1, 2, 3, 4, 5, 6, 7, 8, 9, 10, 11], [0, 1]), ([12, 11, 0, 1, 2, 3, 4, 5, 6, 7, 8, 9, 10, 11], [11, 12])])
def fc_.B20 : List Nat := [0, 0, 0, 0, 12, 28, 60, 0, 0, 384, 896, 2044, 4095, 8191]
theorem fc_.tab20 : rtab .any (opsOf Tryz.f69 20) = fc_.T20 := by kernel_rfl
theorem fc_.bits20 : vg_ fc_.T20.2 fc_.B20 = true := by kernel_rfl
set_option maxHeartbeats 8000000 in
set_option maxRecDepth 100000 in
theorem fc_.calls (k : Nat) (A0 : Option Addr) (c0 : Nat) (l0 : List Int) (A1 : Option Addr) (c1 : Nat) (l1 : List Int) (r : List Int) (w : World) (hr0 : Kd.C (Kd.int .i64) w A0 l0.length l0) (hc0 : l0.length ≤ c0) (hr1 : Kd.C (Kd.int .i64) w A1 l1.length l1) (hc1 : l1.length ≤ c1) (h : fc_.f k l0 l1 = some r) :
  Calls Tryz.prog 69 #[.slice A0 l0.length c0, .slice A1 l1.length c1] w fun e w' => ∃ v0_ : Value, e = .returned (v0_) ∧ Kd.R (Kd.int .i64) 3 w' w.heap.size (fun _ => True) v0_ r ∧ Below w.heap.size w w' ∧ (l0 ≠ [] → r = [] → v0_ = .slice none 0 0) := by
 have HR0 := ba_.mk hr0
 have HC0 := ba_.mk hc0
 clear hr0 hc0
 have HR1 := ba_.mk hr1
 have HC1 := ba_.mk hc1
 clear hr1 hc1
 have HB := ba_.mk (Below.refl w.heap.size w)
 have H : ((ml_.f l0).bind fun t102 => (fc_.l0 k l0 l1 ([] : List (List Int)) t102 0)) = some r := h
 clear h
 obtain ⟨t102, A3, H⟩ := Qk H
 try dsimp only at H
 have H' := ba_.mk H
 clear H
 go_enter Tryz.func69, Tryz.ntmps69
 go_wp2_with (first | ((with_reducible refine ia_ (f := 45) rfl ?_); refine gc_ (some 17) rfl rfl Tryz.func45 Qb rfl #[.slice A0 l0.length c0] rfl Qj ?_; (with_reducible refine (ml_.calls _ _ l0 t102 _ ?side1 ?side2 A3.out).mono ?_); (case side1 => exact Xa); (case side2 => exact HC0.out); rintro e w4 ⟨v103, hv9, rfl, hb⟩; refine ⟨_, rfl, ?_⟩; have HV9 := ba_.mk hv9; clear hv9; have n1_ := ba_.mk (wa_ Qe hb); clear HB; have HB := n1_; clear n1_; (try clear hb); (try clear hb2); (try clear hk); (try clear hi)))
 go_loopg [5, 18] k (fun kq v5 v18 w' => ∃ (x5_1 : List (List Int)) (x18_1 : Int), v18 = .int .i64 x18_1 ∧ ba_ (fc_.l0 kq l0 l1 x5_1 t102 x18_1 = some r) ∧ ba_ (kq ≤ k) ∧ ba_ (Kd.S (Kd.slice 87 (Kd.int .i64)) 124 w' w.heap.size (fun _ => True) v5 x5_1) ∧ ba_ (Below w.heap.size w w'))
 case atStart => exact ⟨(([] : List (List Int))), (0), Qi, H', ⟨Nat.le_refl _⟩, ⟨by first | exact Kd.oh_ _ _ _ _ _ | exact Kd.mh_ _ _ _ _ _ | exact Kd.ph_ _ _ _ _ _ | exact Kd.nh_ _ _ _ _ _ | exact Kd.yf_ _ _ _ _ _⟩, ⟨Qe⟩⟩
 case round =>
  clear H'
  try clear c1
  try clear p2
  try clear c4
  obtain ⟨x5_1, x18_1, rfl, HA, HK1, HO_5, HB⟩ := hrel
  cases gk with
  | zero => exact absurd HA.out (by simp [fc_.l0])
  | succ k1 =>
   have H := HA.out
   clear HA
   simp only [fc_.l0] at H
   by_cases c5 : x18_1 < 6
   ·rw [if_pos c5] at H
    have c5b0 := decide_eq_true c5
    clear c5
    obtain ⟨c6, H⟩ := Qn H
    have c6b0 := decide_eq_true c6
    clear c6
    obtain ⟨c7, H⟩ := Qn H
    have c7b0 := decide_eq_true c7
    clear c7
    have H' := ba_.mk H
    clear H
    have p105 : 0 ≤ (x18_1 : Int) := of_decide_eq_true Qg
    have q105 : x18_1 < (t102.length : Int) := of_decide_eq_true Qg
    have hix := kb1_ v103 (t102) x18_1 p105 (of_decide_eq_true c5b0) (zi_ A3.out) HV9.out
    replace p105 := eq_true p105
    replace q105 := eq_true q105
    go_wp2
    go_loopg [8, 24] k1 (fun kq v8 v24 w' => ∃ (x8_2 : List Int) (x24_2 : Int), v24 = .int .i64 x24_2 ∧ ba_ (fc_.l1 kq l0 l1 x5_1 x18_1 (rd t102 x18_1) x8_2 t102 x18_1 l1 (l1.length : Int) x24_2 = some r) ∧ ba_ (kq ≤ k1) ∧ ba_ (Kd.S (Kd.slice 87 (Kd.int .i64)) 124 w' w.heap.size (fun k_ => some k_ ≠ (v8 : Value).ownBlock) u5 x5_1) ∧ ba_ (Kd.R (Kd.int .i64) 87 w' w.heap.size (fun _ => True) v8 x8_2) ∧ ba_ (Below w.heap.size w w'))
    case atStart => exact ⟨(([] : List Int)), (0), Qi, H', ⟨Nat.le_refl _⟩, ⟨by (with_reducible repeat (first | apply Kd.nf_ | apply Kd.of_ | apply Kd.rg_)); exact Kd.ol_ HO_5.out (fun _ hk => Xe)⟩, ⟨Q5⟩, ⟨Qe⟩⟩
    case round =>
     clear H'
     try clear c1
     try clear p1
     try clear q1
     try clear hx1
     try clear p2
     try clear c4
     try clear c5
     try clear c5b0
     try clear c6
     try clear c6b0
     try clear c7
     try clear c7b0
     try clear hx105_0
     try clear p105
     try clear p2
     try clear q105
     obtain ⟨x8_2, x24_2, rfl, HA, HK2, HO_5, HO_8, HB⟩ := hrel
     cases gk with
     | zero => exact absurd HA.out (by simp [fc_.l1])
     | succ k2 =>
      have H := HA.out
      clear HA
      simp only [fc_.l1] at H
      by_cases c9 : x24_2 < (l1.length : Int)
      rotate_left
      ·rw [if_neg c9] at H
       have c9b0 := decide_eq_false c9
       clear c9
       obtain ⟨c15, H⟩ := Qn H
       have LMc15 := ba_.mk c15
       clear c15
       obtain ⟨y111, hy111⟩ : ∃ y_ : List Int, y_ = (x8_2 ++ [(rd t102 x18_1)]) := ⟨_, rfl⟩
       replace H : (if x5_1.length < 5864062014805 then (fc_.l0 k2 l0 l1 (x5_1 ++ [y111]) t102 (wrap64 (x18_1 + 1))) else (none)) = some r := by first | (rw [hy111]; with_reducible exact H) | (have H2_ := (Option.bind_some _ _).symm.trans H; rw [hy111]; with_reducible exact H2_) | (have H2_ := (Option.bind_some _ _).symm.trans H; with_reducible exact H2_) | with_reducible exact H | (rw [hy111]; exact H) | exact H
       have Ny111 := ba_.mk hy111
       clear hy111
       obtain ⟨c16, H⟩ := Qn H
       have LMc16 := ba_.mk c16
       clear c16
       obtain ⟨y114, hy114⟩ : ∃ y_ : List (List Int), y_ = (x5_1 ++ [y111]) := ⟨_, rfl⟩
       replace H : (fc_.l0 k2 l0 l1 y114 t102 (wrap64 (x18_1 + 1))) = some r := by first | (rw [hy114]; with_reducible exact H) | (have H2_ := (Option.bind_some _ _).symm.trans H; rw [hy114]; with_reducible exact H2_) | (have H2_ := (Option.bind_some _ _).symm.trans H; with_reducible exact H2_) | with_reducible exact H | (rw [hy114]; exact H) | exact H
       have Ny114 := ba_.mk hy114
       clear hy114
       have H' := ba_.mk H
       clear H
       go_wp2_with (first | ((with_reducible refine xd_ (b := .append) (xs := #[.tmp 38, .tmp 40]) rfl ?_); at_builtin; refine Kd.qf_ (Kd.int .i64) (w0 := w) w.heap.size rfl (.tmp 38) (.tmp 40) 124 87 (.int .i64 0) 8 rfl Tryz.underlying124 mn_ rfl Qh Qa u8 x8_2 (rd t102 x18_1) [.int .i64 (rd t102 x18_1)] (fun _ => True) (fun _ => False) rfl rfl ?aP (fun _ hk => hk.elim) ?aF ?aO ?aB ?aS ?aL ?_; (case aP => exact rfl); (case aB => exact Q3); (case aF => exact Xc); (case aO => exact (Ql HO_8.out)); (case aS => exact Q4); (case aL => have := LMc15.out; omega); intro v112 w17 ho hb hg hat; rw [← Ny111.out] at ho; have n0_ := ba_.mk (Kd.tm_ (ok := (fun _ => True)) (by (with_reducible repeat (first | apply Kd.nf_ | apply Kd.of_ | apply Kd.rg_)); exact Kd.ol_ HO_5.out (fun _ hk => ⟨trivial, hk⟩)) hg hat); have n2_ := ba_.mk (hb); have n3_ := ba_.mk (ho); clear HO_5; clear HB; clear HO_8; have HO_5 := n0_; have HB := n2_; have HO113 := n3_; clear n0_ n2_ n3_; clear ho hb hg hat; obtain ⟨Ao19, co19, eo19⟩ := Kd.pd_ HO113.out; subst eo19) | ((with_reducible refine xd_ (b := .append) (xs := #[.tmp 37, .tmp 42]) rfl ?_); at_builtin; refine Kd.yr_ (Kd.slice 87 (Kd.int .i64)) (w0 := w) w.heap.size rfl (.tmp 37) (.tmp 42) 123 124 (.slice none 0 0) 24 rfl Tryz.underlying123 zv_ rfl Qh Qa u5 x5_1 y111 [.slice Ao19 y111.length co19] (fun _ => True) (fun k_ => some k_ = (.slice Ao19 y111.length co19 : Value).ownBlock) rfl rfl ?aP (fun k_ hk_ => ((Kd.rd_ (ok' := fun k_ => ((fun _ => True)) k_ ∧ some k_ ≠ (u5 : Value).ownBlock) (Kd.al_ (HO113.out) (Kd.lk_ HO_5.out) Qh) (fun k_ hk => ⟨trivial, hk.2⟩))).1 k_ hk_.symm) ?aF ?aO ?aB ?aS ?aL ?_; (case aP => exact Kd.bg1_ (Kd.rd_ (Kd.xr_ rfl (Kd.rd_ (ok' := fun k_ => ((fun _ => True)) k_ ∧ some k_ ≠ (u5 : Value).ownBlock) (Kd.al_ (HO113.out) (Kd.lk_ HO_5.out) Qh) (fun k_ hk => ⟨trivial, hk.2⟩))) (fun _ h_ => h_))); (case aB => exact Q3); (case aF => exact Xc); (case aO => exact (by (with_reducible repeat (first | apply Kd.nf_ | apply Kd.of_ | apply Kd.rg_)); exact Kd.ol_ HO_5.out (fun k_ hk => ⟨trivial, fun e_ => hk.2 e_⟩))); (case aS => exact Q4); (case aL => have := LMc16.out; omega); intro v115 w18 ho hb hg hat; rw [← Ny114.out] at ho; have n1_ := ba_.mk (hb); have n2_ := ba_.mk (ho); clear HB; clear HO_5; clear HO113; have HB := n1_; have HO116 := n2_; clear n1_ n2_; clear ho hb hg hat))
       go_roundg k2
       case measure => exact Xi
       case rel => exact ⟨(y114), (wrap64 (x18_1 + 1)), Qi, H', ⟨Xj⟩, ⟨by (with_reducible repeat (first | apply Kd.nf_ | apply Kd.of_ | apply Kd.rg_)); exact HO116.out⟩, ⟨Qe⟩⟩
      rw [if_pos c9] at H
      have c9b0 := decide_eq_true c9
      clear c9
      obtain ⟨c10, H⟩ := Qn H
      have c10b0 := decide_eq_true c10
      clear c10
      obtain ⟨c11, H⟩ := Qn H
      have c11b0 := decide_eq_true c11
      clear c11
      obtain ⟨t107, A12, H⟩ := Qk H
      try dsimp only at H
      obtain ⟨c13, H⟩ := Qn H
      have LMc13 := ba_.mk c13
      clear c13
      obtain ⟨y108, hy108⟩ : ∃ y_ : List Int, y_ = (x8_2 ++ [t107]) := ⟨_, rfl⟩
      replace H : (fc_.l1 k2 l0 l1 x5_1 x18_1 (rd t102 x18_1) y108 t102 x18_1 l1 (l1.length : Int) (wrap64 (x24_2 + 1))) = some r := by first | (rw [hy108]; with_reducible exact H) | (have H2_ := (Option.bind_some _ _).symm.trans H; rw [hy108]; with_reducible exact H2_) | (have H2_ := (Option.bind_some _ _).symm.trans H; with_reducible exact H2_) | with_reducible exact H | (rw [hy108]; exact H) | exact H
      have Ny108 := ba_.mk hy108
      clear hy108
      have H' := ba_.mk H
      clear H
      have p106 : 0 ≤ (x24_2 : Int) := of_decide_eq_true Qg
      have q106 : x24_2 < (l1.length : Int) := of_decide_eq_true Qg
      obtain ⟨ad106, e106, hx106_0⟩ := Kd.sd_ HR1.out x24_2 p106 q106
      cases e106
      replace hx106_0 := (HB.out.cell (World.block_lt_of_cell? w _ hx106_0)).trans hx106_0
      replace p106 := eq_true p106
      replace q106 := eq_true q106
      go_wp2_with (first | ((with_reducible refine ia_ (f := 95) rfl ?_); refine gc_ (some 33) rfl rfl Tryz.func95 Qb rfl #[.slice A0 l0.length c0, .int .i64 (rd l1 x24_2), .int .i64 (wrap64 (x18_1 + 1))] rfl Qj ?_; (with_reducible refine (g_at.calls _ _ l0 (rd l1 x24_2) (wrap64 (x18_1 + 1)) t107 _ ?side1 ?side2 A12.out).mono ?_); (case side1 => exact Q9); (case side2 => exact HC0.out); rintro e w' ⟨rfl, ⟨nd, rfl⟩⟩; refine ⟨_, rfl, ?_⟩) | ((with_reducible refine xd_ (b := .append) (xs := #[.tmp 28, .tmp 34]) rfl ?_); at_builtin; refine Kd.qf_ (Kd.int .i64) (w0 := w) w.heap.size rfl (.tmp 28) (.tmp 34) 124 87 (.int .i64 0) 8 rfl Tryz.underlying124 mn_ rfl Qh Qa u8 x8_2 t107 [.int .i64 t107] (fun _ => True) (fun _ => False) rfl rfl ?aP (fun _ hk => hk.elim) ?aF ?aO ?aB ?aS ?aL ?_; (case aP => exact rfl); (case aB => exact Q3); (case aF => exact Xc); (case aO => exact (Ql HO_8.out)); (case aS => exact Q4); (case aL => have := LMc13.out; omega); intro v109 w14 ho hb hg hat; rw [← Ny108.out] at ho; have n0_ := ba_.mk (Kd.tm_ (ok := (fun _ => True)) (by (with_reducible repeat (first | apply Kd.nf_ | apply Kd.of_ | apply Kd.rg_)); exact Kd.ol_ HO_5.out (fun _ hk => ⟨trivial, hk⟩)) hg hat); have n2_ := ba_.mk (hb); have n3_ := ba_.mk (ho); clear HO_5; clear HB; clear HO_8; have HO_5 := n0_; have HB := n2_; have HO110 := n3_; clear n0_ n2_ n3_; clear ho hb hg hat))
      go_roundg k2
      case measure => exact Xi
      case rel => exact ⟨(y108), (wrap64 (x24_2 + 1)), Qi, H', ⟨Xj⟩, ⟨by (with_reducible repeat (first | apply Kd.nf_ | apply Kd.of_ | apply Kd.rg_)); exact Kd.ol_ HO_5.out (fun _ hk => hk.2)⟩, ⟨by (with_reducible repeat (first | apply Kd.eb_ | apply Kd.fb_ | apply Kd.rb_)); exact HO110.out⟩, ⟨Qe⟩⟩
   rw [if_neg c5] at H
   have c5b0 := decide_eq_false c5
   clear c5
   obtain ⟨⟨t117, t118⟩, A20, H⟩ := Qk H
   try dsimp only at H
   by_cases c21 : t118 = true
   rotate_left
   ·replace c21 := Bool.eq_false_iff.mpr c21
    subst c21
    have H1 : (some ([] : List Int)) = some r := by rw [if_neg (show ¬ (false = true) by decide)] at H; exact H
    clear H
    have H := H1
    clear H1
    obtain rfl := Option.some.inj H
    obtain ⟨Ao38, co38, eo38⟩ := Kd.qo_ HO_5.out
    subst eo38
    go_wp2_with (first | ((with_reducible refine ia_ (f := 96) rfl ?_); refine gc_ (some 47) rfl rfl Tryz.func96 Qb rfl #[.slice Ao38 x5_1.length co38] rfl Qj ?_; (refine (xh_.calls w.heap.size _ _ _ x5_1 t117 false _ HO_5.out (za_ HB.out) A20.out).mono ?_); rintro e w39 ⟨v119, rfl, ho0, hb⟩; refine ⟨_, rfl, ?_⟩; have n2_ := ba_.mk (Kd.td_ ho0 (za_ Qe)); have n3_ := ba_.mk (HB.out.trans hb); clear HB; have HO120 := n2_; have HB := n3_; clear n2_ n3_; (try clear hb); (try clear hb2); (try clear hk); (try clear hi); (try clear ho0)))
    go_ret
    exact ⟨_, Qq, Q5, Qe, by intros; rfl⟩
   subst c21
   have H1 : ((wh_.f l0).bind fun t121 => (fc_.l2 k1 l0 t117 t121 l1 (l1.length : Int) 0)) = some r := by rw [if_pos rfl] at H; exact H
   clear H
   have H := H1
   clear H1
   obtain ⟨t121, A22, H⟩ := Qk H
   try dsimp only at H
   have H' := ba_.mk H
   clear H
   obtain ⟨Ao23, co23, eo23⟩ := Kd.qo_ HO_5.out
   subst eo23
   go_wp2_with (first | ((with_reducible refine ia_ (f := 96) rfl ?_); refine gc_ (some 47) rfl rfl Tryz.func96 Qb rfl #[.slice Ao23 x5_1.length co23] rfl Qj ?_; (refine (xh_.calls w.heap.size _ _ _ x5_1 t117 true _ HO_5.out (za_ HB.out) A20.out).mono ?_); rintro e w24 ⟨v119, rfl, ho0, hb⟩; refine ⟨_, rfl, ?_⟩; have n2_ := ba_.mk (Kd.td_ ho0 (za_ Qe)); have n3_ := ba_.mk (HB.out.trans hb); clear HB; have HO120 := n2_; have HB := n3_; clear n2_ n3_; (try clear hb); (try clear hb2); (try clear hk); (try clear hi); (try clear ho0)) | ((with_reducible refine ia_ (f := 97) rfl ?_); refine gc_ (some 53) rfl rfl Tryz.func97 Qb rfl #[.slice A0 l0.length c0] rfl Qj ?_; (with_reducible refine (wh_.calls _ _ l0 t121 _ ?side1 ?side2 A22.out).mono ?_); (case side1 => exact Q9); (case side2 => exact HC0.out); rintro e w25 ⟨v122, rfl, ho0, hb⟩; refine ⟨_, rfl, ?_⟩; have n2_ := ba_.mk (Kd.ne_ (Ql HO120.out) hb); have n3_ := ba_.mk (Kd.td_ ho0 (za_ Qe)); have n4_ := ba_.mk (wa_ Qe hb); clear HO120; clear HB; have HO120 := n2_; have HO123 := n3_; have HB := n4_; clear n2_ n3_ n4_; (try clear hb); (try clear hb2); (try clear hk); (try clear hi); (try clear ho0)))
   go_loopg [56] k1 (fun kq v56 w' => ∃ (x13_2 : List Int) (x56_2 : Int), v56 = .int .i64 x56_2 ∧ ba_ (fc_.l2 kq l0 t117 x13_2 l1 (l1.length : Int) x56_2 = some r) ∧ ba_ (kq ≤ k1) ∧ ba_ (Kd.R (Kd.int .i64) 87 w' w.heap.size (fun _ => True) v119 t117) ∧ ba_ (Kd.R (Kd.int .i64) 3 w' w.heap.size (fun _ => True) v122 x13_2) ∧ ba_ (Below w.heap.size w w'))
   case atStart => exact ⟨(t121), (0), Qi, H', ⟨Nat.le_refl _⟩, ⟨by (with_reducible repeat (first | apply Kd.eb_ | apply Kd.fb_ | apply Kd.rb_)); exact HO120.out⟩, ⟨by (with_reducible repeat (first | apply Kd.eb_ | apply Kd.fb_ | apply Kd.rb_)); exact HO123.out⟩, ⟨Qe⟩⟩
   case round =>
    clear H'
    try clear c1
    try clear p1
    try clear q1
    try clear hx1
    try clear c2
    try clear p2
    try clear c4
    try clear c5
    try clear c5b0
    try clear c6
    try clear c6b0
    try clear p6
    try clear c7
    try clear c7b0
    try clear c9
    try clear c9b0
    try clear c10
    try clear c10b0
    try clear p10
    try clear q10
    try clear hx10
    try clear c11
    try clear c11b0
    try clear c13
    try clear c15
    try clear c16
    try clear c21
    try clear hx105_0
    try clear hx106_0
    try clear p1
    try clear p105
    try clear p106
    try clear p2
    try clear q1
    try clear q105
    try clear q106
    obtain ⟨x13_2, x56_2, rfl, HA, HK2, HO_11, HO_13, HB⟩ := hrel
    cases gk with
    | zero => exact absurd HA.out (by simp [fc_.l2])
    | succ k2 =>
     have H := HA.out
     clear HA
     simp only [fc_.l2] at H
     by_cases c26 : x56_2 < (l1.length : Int)
     rotate_left
     ·rw [if_neg c26] at H
      have c26b0 := decide_eq_false c26
      clear c26
      obtain rfl := Option.some.inj H
      go_wp2
      go_ret
      exact ⟨_, Qq, by (with_reducible repeat (first | apply Kd.eb_ | apply Kd.fb_ | apply Kd.rb_)); exact HO_13.out, Qe, fun hne hr => absurd (by obtain ⟨_, _, e1⟩ := Kd.pd_ HO123.out; obtain ⟨_, _, e2⟩ := Kd.pd_ HO_13.out; rw [e1] at e2; injection e2 with _ e3 _; rw [hr, (uo_ A22.out).1] at e3; exact List.eq_nil_of_length_eq_zero e3) hne⟩
     rw [if_pos c26] at H
     have c26b0 := decide_eq_true c26
     clear c26
     by_cases c27 : 0 ≤ x56_2
     rotate_left
     ·rw [if_neg c27] at H
      exact absurd H Qo
     rw [if_pos c27] at H
     have c27b0 := decide_eq_true c27
     clear c27
     by_cases c28 : x56_2 < (l1.length : Int)
     rotate_left
     ·rw [if_neg c28] at H
      exact absurd H Qo
     rw [if_pos c28] at H
     have c28b0 := decide_eq_true c28
     clear c28
     by_cases c29 : 0 ≤ (rd l1 x56_2)
     rotate_left
     ·rw [if_neg c29] at H
      exact absurd H Qo
     rw [if_pos c29] at H
     have c29b0 := decide_eq_true c29
     clear c29
     by_cases c30 : (rd l1 x56_2) < (l0.length : Int)
     rotate_left
     ·rw [if_neg c30] at H
      exact absurd H Qo
     rw [if_pos c30] at H
     have c30b0 := decide_eq_true c30
     clear c30
     obtain ⟨ji31, hji31⟩ : ∃ j_ : Int, (mx (rd l0 (rd l1 x56_2)) 0) = j_ := ⟨_, rfl⟩
     replace H : (if x56_2 < (t117.length : Int) then (if (rd l1 x56_2) < (x13_2.length : Int) then (fc_.l2 k2 l0 t117 (x13_2.set ((rd l1 x56_2) : Int).toNat (Go.bits .xor .i64 (ji31) (rd t117 x56_2))) l1 (l1.length : Int) (wrap64 (x56_2 + 1))) else (none)) else (none)) = some r := by first | (rw [hji31] at H; exact H) | (simp only [hji31] at H ⊢; exact H)
     have hji31_ : (if (rd l0 (rd l1 x56_2)) < 0 then 0 else (rd l0 (rd l1 x56_2))) = ji31 := hji31
     by_cases c32 : x56_2 < (t117.length : Int)
     rotate_left
     ·rw [if_neg c32] at H
      exact absurd H Qo
     rw [if_pos c32] at H
     have c32b0 := decide_eq_true c32
     clear c32
     by_cases c33 : (rd l1 x56_2) < (x13_2.length : Int)
     rotate_left
     ·rw [if_neg c33] at H
      exact absurd H Qo
     rw [if_pos c33] at H
     have c33b0 := decide_eq_true c33
     clear c33
     obtain ⟨y127, hy127⟩ : ∃ y_ : List Int, y_ = (x13_2.set ((rd l1 x56_2) : Int).toNat (Go.bits .xor .i64 (ji31) (rd t117 x56_2))) := ⟨_, rfl⟩
     replace H : (fc_.l2 k2 l0 t117 y127 l1 (l1.length : Int) (wrap64 (x56_2 + 1))) = some r := by first | (rw [hy127]; with_reducible exact H) | (have H2_ := (Option.bind_some _ _).symm.trans H; rw [hy127]; with_reducible exact H2_) | (have H2_ := (Option.bind_some _ _).symm.trans H; with_reducible exact H2_) | with_reducible exact H | (rw [hy127]; exact H) | exact H
     have Ny127 := ba_.mk hy127
     clear hy127
     have H' := ba_.mk H
     clear H
     have p124 : 0 ≤ (x56_2 : Int) := of_decide_eq_true Qg
     have q124 : x56_2 < (l1.length : Int) := of_decide_eq_true Qg
     obtain ⟨ad124, e124, hx124_0⟩ := Kd.sd_ HR1.out x56_2 p124 q124
     cases e124
     replace hx124_0 := (HB.out.cell (World.block_lt_of_cell? w _ hx124_0)).trans hx124_0
     replace p124 := eq_true p124
     replace q124 := eq_true q124
     try go_wp2
     have n0_ := ba_.mk (Kd.rb_ HO_11.out)
     have n1_ := ba_.mk (Kd.rb_ HO_13.out)
     have n2_ := ba_.mk (ca_ HB.out)
     clear HO_11
     clear HO_13
     clear HB
     have HO_11 := n0_
     have HO_13 := n1_
     have HB := n2_
     clear n0_ n1_ n2_
     have p125 : 0 ≤ ((rd l1 x56_2) : Int) := of_decide_eq_true Qg
     have q125 : (rd l1 x56_2) < (l0.length : Int) := of_decide_eq_true Qg
     obtain ⟨ad125, e125, hx125_0⟩ := Kd.sd_ HR0.out (rd l1 x56_2) p125 q125
     have hw125_0 := hx125_0
     cases e125
     replace hx125_0 := (HB.out.cell (World.block_lt_of_cell? w _ hx125_0)).trans hx125_0
     replace p125 := eq_true p125
     replace q125 := eq_true q125
     obtain ⟨Ao36, co36, eo36⟩ := Kd.pd_ HO_11.out
     (first | subst eo36 | (injection eo36 with f1_ f2_ f3_; have f4_ := f1_.symm; have f5_ := f3_.symm; clear f1_ f2_ f3_; subst f4_; subst f5_))
     have p126 : 0 ≤ (x56_2 : Int) := of_decide_eq_true Qg
     have q126 : x56_2 < (t117.length : Int) := of_decide_eq_true Qg
     obtain ⟨ad126, e126, hx126_0⟩ := Kd.sd_ (Kd.cc_ HO_11.out).2.2 x56_2 p126 q126
     cases e126
     replace p126 := eq_true p126
     replace q126 := eq_true q126
     have p34 : 0 ≤ ((rd l1 x56_2) : Int) := of_decide_eq_true Qg
     have q34 : ((rd l1 x56_2) : Int) < ((x13_2.length : Int) : Int) := of_decide_eq_true Qg
     obtain ⟨go34, co34, eo34, gb34, gl34, cl34, HG34⟩ := Kd.mi_ HO_13.out Qa
     (first | cases eo34 | (injection eo34 with ea_ en_ ec_; (first | subst ea_ | (injection ea_ with ea_; subst ea_)); subst ec_; clear en_))
     have GB34 := ba_.mk gb34
     have GG34 := ba_.mk HG34
     clear gb34 gl34 HG34
     obtain ⟨hx34_0, hf34_0⟩ := Kd.sg_ 0 HO_13.out ((rd l1 x56_2) : Int) p34 q34
     replace p34 := eq_true p34
     replace q34 := eq_true q34
     have HP37 := Kd.jn_ HO_13.out ((rd l1 x56_2) : Int) (Go.bits .xor .i64 (ji31) (rd t117 x56_2))
     rw [← Ny127.out] at HP37
     have HQ37 := ba_.mk HP37
     clear HP37
     refine kh_ (n := 14) (S := fun w' => w'.cell? (ad125.add ((rd l1 x56_2)).toNat) = some (.int .i64 (rd l0 (rd l1 x56_2))) ∧ w'.cell? (ad126.add (x56_2).toNat) = some (.int .i64 (rd t117 x56_2))) (ds := [13]) #[false, false, false, false, false, false, false, false, false, false, false, false, false, false] Qb rfl rfl ⟨((HB.out.cell (World.block_lt_of_cell? w _ hw125_0)).trans hw125_0), hx126_0⟩ (fun hHeld => ?_); refine lh_ fc_.tab20 fc_.bits20 (fun HT_ HW_ => ?_)
     generalize wr.drew = w35 at HO_11 HO_13 HB GG34 HQ37 hf34_0 hx125_0 hx126_0 hx34_0 hHeld ⊢
     refine oc_ (i := 0) (N := some 61) (v := ?_) (a' := ?_) #[true, false, false, false, false, false, false, false, false, false, false, false, false, false] rfl rfl Qm Qd (Or.inl ⟨by rfl, ?_⟩) ?_ ?_
     rotate_left
     ·exact Qf
     rotate_left
     ·exact Qc
     refine oc_ (i := 1) (N := some 62) (v := ?_) (a' := ?_) #[true, true, false, false, false, false, false, false, false, false, false, false, false, false] rfl rfl Qm Qd (Or.inl ⟨by rfl, ?_⟩) ?_ ?_
     rotate_left
     ·exact Qf
     rotate_left
     ·exact Qc
     refine oc_ (i := 2) (N := some 63) (v := ?_) (a' := ?_) #[true, true, true, false, false, false, false, false, false, false, false, false, false, false] rfl rfl Qm Qd (Or.inl ⟨by rfl, ?_⟩) ?_ ?_
     rotate_left
     ·exact Qf
     rotate_left
     ·exact Qc
     refine oc_ (i := 3) (N := some 64) (v := ?_) (a' := ?_) #[true, true, true, true, false, false, false, false, false, false, false, false, false, false] rfl rfl Qm Qd (Or.inl ⟨by rfl, ?_⟩) ?_ ?_
     rotate_left
     ·exact Qf
     rotate_left
     ·exact Qc
     refine oc_ (i := 4) (N := some 65) (v := ?_) (a' := ?_) #[true, true, true, true, true, false, false, false, false, false, false, false, false, false] rfl rfl Qm Qd (Or.inl ⟨by rfl, ?_⟩) ?_ ?_
     rotate_left
     ·exact Qf
     rotate_left
     ·exact Qc
     refine oc_ (i := 7) (N := some 68) (v := ?_) (a' := ?_) #[true, true, true, true, true, false, false, true, false, false, false, false, false, false] rfl rfl Qm Qd (Or.inl ⟨by rfl, ?_⟩) ?_ ?_
     rotate_left
     ·exact Qf
     rotate_left
     ·exact Qc
     refine oc_ (i := 8) (N := some 69) (v := ?_) (a' := ?_) #[true, true, true, true, true, false, false, true, true, false, false, false, false, false] rfl rfl Qm Qd (Or.inl ⟨by rfl, ?_⟩) ?_ ?_
     rotate_left
     ·exact Qf
     rotate_left
     ·exact Qc
     refine oc_ (i := 9) (N := some 70) (v := ?_) (a' := ?_) #[true, true, true, true, true, false, false, true, true, true, false, false, false, false] rfl rfl Qm Qd (Or.inl ⟨by rfl, ?_⟩) ?_ ?_
     rotate_left
     ·exact Qf
     rotate_left
     ·exact Qc
     refine df_ (i := 5) (N := some 66) (v := ?_) (a' := ?_) #[true, true, true, true, true, true, false, true, true, true, false, false, false, false] rfl rfl (ie_ HT_.out HW_.out Qb) Qd (Or.inl ⟨by rfl, ?_⟩) hHeld ?_ ?_
     rotate_left
     ·exact Xd
     rotate_left
     ·exact Qc
     refine oc_ (i := 6) (N := some 67) (v := ?_) (a' := ?_) #[true, true, true, true, true, true, true, true, true, true, false, false, false, false] rfl rfl Qm Qd (Or.inl ⟨by rfl, ?_⟩) ?_ ?_
     rotate_left
     ·exact Qf
     rotate_left
     ·exact Qc
     refine df_ (i := 10) (N := some 71) (v := ?_) (a' := ?_) #[true, true, true, true, true, true, true, true, true, true, true, false, false, false] rfl rfl (ie_ HT_.out HW_.out Qb) Qd (Or.inl ⟨by rfl, ?_⟩) hHeld ?_ ?_
     rotate_left
     ·exact Xd
     rotate_left
     ·exact Qc
     refine oc_ (i := 11) (N := some 72) (v := ?_) (a' := ?_) #[true, true, true, true, true, true, true, true, true, true, true, true, false, false] rfl rfl Qm Qd (Or.inl ⟨by rfl, ?_⟩) ?_ ?_
     rotate_left
     ·exact Qf
     rotate_left
     ·exact Qc
     refine oc_ (i := 12) (N := some 73) (v := ?_) (a' := ?_) #[true, true, true, true, true, true, true, true, true, true, true, true, true, false] rfl rfl Qm Qd (Or.inl ⟨by rfl, ?_⟩) ?_ ?_
     rotate_left
     ·exact Qf
     rotate_left
     ·exact Qc
     refine np_ (i := 13) (N := none) #[true, true, true, true, true, true, true, true, true, true, true, true, true, true] rfl rfl Xb Qh (fun K hK => ?_)
     refine xl_ (w1 := ?_) (by rfl) rfl ?_ ?_
     rotate_left
     ·go_simp
      rfl
     refine hK.out _ _ ?_
     clear hK K
     refine jk_ Xw ?_
     try go_wp2
     go_roundg k2
     case measure => exact Xi
     case rel => exact ⟨(y127), (wrap64 (x56_2 + 1)), Qi, H', ⟨Xj⟩, ⟨by (with_reducible repeat (first | apply Kd.eb_ | apply Kd.fb_ | apply Kd.rb_)); exact Kd.rd_ (Kd.jf_ (p := ⟨go34, ((rd l1 x56_2) : Int).toNat, none⟩) (Kd.th_ HO_11.out GG34.out Qh) (fun _ hk => hk.2) (.int .i64 (Go.bits .xor .i64 (ji31) (rd t117 x56_2)))) (fun _ hk => trivial)⟩, ⟨by (with_reducible repeat (first | apply Kd.eb_ | apply Kd.fb_ | apply Kd.rb_)); exact HQ37.out⟩, ⟨by repeat (first | (with_reducible first | exact HB.out | apply da_ | apply aa_ | apply ca_ | refine sa_ ?_ GB34.out) | exact HB.out)⟩⟩
end Go.Proofs.YtpkhgapifnjbeaaGreatDoor.F
end
section
namespace Go.Proofs.YtpkhgapifnjbeaaGreatDoor.F
open RowKit G Zw.PrintWords Zw.PrintLast Zw.PrintMore
attribute [local go_sem] id_ kd_ vd_ wd_ bd_ cd_ jd_ ld_
end Go.Proofs.YtpkhgapifnjbeaaGreatDoor.F
end
section
namespace Go.Proofs.YtpkhgapifnjbeaaGreatDoor.L
open RowKit G Zw.PrintWords Zw.PrintLast Zw.PrintMore
attribute [local go_sem] id_ kd_ vd_ wd_ bd_ cd_ jd_ ld_
def errW : Option Int → Value
 | none => .nilIface
 | some c => .iface 0 (.int .i64 c)
theorem ta_ : errW none = .nilIface := rfl
theorem ua_ (c : Int) : errW (some c) = .iface 0 (.int .i64 c) := rfl
theorem gi_ : (Tryz.prog.info? 3).map (fun i => (i.zero, i.size, i.bytes)) = some (some (.int .i64 0), 1, 8) := by kernel_rfl
theorem mn_ : (Tryz.prog.info? 87).map (fun i => (i.zero, i.size, i.bytes)) = some (some (.int .i64 0), 1, 8) := by kernel_rfl
theorem zv_ : (Tryz.prog.info? 124).map (fun i => (i.zero, i.size, i.bytes)) = some (some (.slice none 0 0), 1, 24) := by kernel_rfl
def sf_ (xs : List (List Int)) (i : Int) : (List Int) := xs.getD i.toNat ([] : List Int)
theorem dt_ {w : World} {A : Option Addr} {n : Nat} {xs : List (List Int)} (h : Kd.C (Kd.slice 3 (Kd.int .i64)) w A n xs) (i : Int) (h0 : 0 ≤ i) (h1 : i < n) : ∃ ad A0 c0, A = some ad ∧ w.cell? (ad.add i.toNat) = some (.slice A0 (sf_ xs i).length c0) ∧ (sf_ xs i).length ≤ c0 ∧ (Kd.int .i64).C w A0 (sf_ xs i).length (sf_ xs i) := by
 obtain ⟨ad, c, e, _, hK, hc0⟩ := Kd.oi_ h ([] : List Int) i h0 h1
 have hc : ∀ j u, c[j]? = some u → w.cell? (ad.add (i.toNat * 1 + j)) = some u := hc0
 obtain ⟨A0, c0, rfl, l0, g0⟩ := hK
 exact ⟨ad, A0, c0, e, Q0, l0, g0⟩
def lm_ (xs : List (List Int)) (i : Int) : (List Int) := xs.getD i.toNat ([] : List Int)
theorem at_L2 {w : World} {A : Option Addr} {n : Nat} {xs : List (List Int)} (h : Kd.C (Kd.slice 88 (Kd.int .i64)) w A n xs) (i : Int) (h0 : 0 ≤ i) (h1 : i < n) : ∃ ad A0 c0, A = some ad ∧ w.cell? (ad.add i.toNat) = some (.slice A0 (lm_ xs i).length c0) ∧ (lm_ xs i).length ≤ c0 ∧ (Kd.int .i64).C w A0 (lm_ xs i).length (lm_ xs i) := by
 obtain ⟨ad, c, e, _, hK, hc0⟩ := Kd.oi_ h ([] : List Int) i h0 h1
 have hc : ∀ j u, c[j]? = some u → w.cell? (ad.add (i.toNat * 1 + j)) = some u := hc0
 obtain ⟨A0, c0, rfl, l0, g0⟩ := hK
 exact ⟨ad, A0, c0, e, Q0, l0, g0⟩
def jh_ (xs : List (List Int)) (i : Int) : (List Int) := xs.getD i.toNat ([] : List Int)
theorem ia1_ {w : World} {A : Option Addr} {n : Nat} {xs : List (List Int)} (h : Kd.C (Kd.slice 87 (Kd.int .i64)) w A n xs) (i : Int) (h0 : 0 ≤ i) (h1 : i < n) : ∃ ad A0 c0, A = some ad ∧ w.cell? (ad.add i.toNat) = some (.slice A0 (jh_ xs i).length c0) ∧ (jh_ xs i).length ≤ c0 ∧ (Kd.int .i64).C w A0 (jh_ xs i).length (jh_ xs i) := by
 obtain ⟨ad, c, e, _, hK, hc0⟩ := Kd.oi_ h ([] : List Int) i h0 h1
 have hc : ∀ j u, c[j]? = some u → w.cell? (ad.add (i.toNat * 1 + j)) = some u := hc0
 obtain ⟨A0, c0, rfl, l0, g0⟩ := hK
 exact ⟨ad, A0, c0, e, Q0, l0, g0⟩
def bk_ (xs : List (List (List Int))) (i : Int) : (List (List Int)) := xs.getD i.toNat ([] : List (List Int))
theorem jg1_ {w : World} {A : Option Addr} {n : Nat} {xs : List (List (List Int))} (h : Kd.C (Kd.slice 124 (Kd.slice 87 (Kd.int .i64))) w A n xs) (i : Int) (h0 : 0 ≤ i) (h1 : i < n) : ∃ ad A0 c0, A = some ad ∧ w.cell? (ad.add i.toNat) = some (.slice A0 (bk_ xs i).length c0) ∧ (bk_ xs i).length ≤ c0 ∧ (Kd.slice 87 (Kd.int .i64)).C w A0 (bk_ xs i).length (bk_ xs i) := by
 obtain ⟨ad, c, e, _, hK, hc0⟩ := Kd.oi_ h ([] : List (List Int)) i h0 h1
 have hc : ∀ j u, c[j]? = some u → w.cell? (ad.add (i.toNat * 1 + j)) = some u := hc0
 obtain ⟨A0, c0, rfl, l0, g0⟩ := hK
 exact ⟨ad, A0, c0, e, Q0, l0, g0⟩
end Go.Proofs.YtpkhgapifnjbeaaGreatDoor.L
end
section
namespace Go.Proofs.YtpkhgapifnjbeaaGreatDoor.L
open RowKit G Zw.PrintWords Zw.PrintLast Zw.PrintMore
attribute [local go_sem] id_ kd_ vd_ wd_ bd_ cd_ jd_ ld_
def nc_.f (a0 : Int) : Option (Int) := if (wrap64 (a0 * 2)) ≥ 32 then (some (Go.bits .xor .i64 (wrap64 (a0 * 2)) 37)) else (some (wrap64 (a0 * 2)))
set_option maxHeartbeats 8000000 in
set_option maxRecDepth 100000 in
theorem nc_.calls (a0 : Int) (r : Int) (w : World) (h : nc_.f a0 = some r) :
  Calls Tryz.prog 114 #[.int .i64 a0] w fun e w' => e = .returned (.int .i64 r) ∧ ja_ w w' := by
 have H : (if (wrap64 (a0 * 2)) ≥ 32 then (some (Go.bits .xor .i64 (wrap64 (a0 * 2)) 37)) else (some (wrap64 (a0 * 2)))) = some r := h
 clear h
 by_cases c2 : (wrap64 (a0 * 2)) ≥ 32
 ·exact Xg
 ·exact Xh
def sc_.f (a0 : Int) : Option (Bool) := if a0 ≥ 0 then (some (decide (a0 < 32))) else (some false)
set_option maxHeartbeats 8000000 in
set_option maxRecDepth 100000 in
theorem sc_.calls (a0 : Int) (r : Bool) (w : World) (h : sc_.f a0 = some r) :
  Calls Tryz.prog 112 #[.int .i64 a0] w fun e w' => e = .returned (.bool r) ∧ ja_ w w' := by
 have H : (if a0 ≥ 0 then (some (decide (a0 < 32))) else (some false)) = some r := h
 clear h
 by_cases c2 : a0 ≥ 0
 ·exact Xx
 ·exact Xy
def pa_.l0 : Nat → Int → Int → Int → Option (Int)
 | 0, _, _, _ => none
 | k + 1, x0, x3, x5 => if x5 < 31 then (if x3 = x0 then (some x5) else ((nc_.f x3).bind fun t101 => (pa_.l0 k x0 t101 (wrap64 (x5 + 1))))) else (some 0)
def pa_.f (k : Nat) (a0 : Int) : Option (Int) := pa_.l0 k a0 1 0
theorem pa_.yc_ : ∀ k, (∀ y0 y1 y2, LeO (pa_.l0 k y0 y1 y2) (pa_.l0 (k + 1) y0 y1 y2))
 | 0 => fun _ _ _ r h => by simp [pa_.l0] at h
 | k + 1 => by
  have ih0 := pa_.yc_ k
  intro y0 y1 y2
  unfold pa_.l0
  repeat' first
  | (with_reducible exact ih0 _ _ _)
  | (with_reducible first | exact LeO.refl _ | exact LeO.none _ | refine LeO.ite ?_ ?_ | refine LeO.bind ?_ (fun _ => ?_))
  | exact ih0 _ _ _
  | exact LeO.none _
  | refine LeO.ite ?_ ?_
  | refine LeO.bind ?_ (fun _ => ?_)
theorem pa_.mono : ∀ a0 k, LeO (pa_.f k a0) (pa_.f (k + 1) a0) := by
 intro a0 k
 have ih0 := pa_.yc_ k
 unfold pa_.f
 repeat' first
   | (with_reducible exact ih0 _ _ _)
   | (with_reducible first | exact LeO.refl _ | exact LeO.none _ | refine LeO.ite ?_ ?_ | refine LeO.bind ?_ (fun _ => ?_))
   | exact ih0 _ _ _
   | exact LeO.none _
   | refine LeO.ite ?_ ?_
   | refine LeO.bind ?_ (fun _ => ?_)
set_option maxHeartbeats 8000000 in
set_option maxRecDepth 100000 in
theorem pa_.calls (k : Nat) (a0 : Int) (r : Int) (w : World) (h : pa_.f k a0 = some r) :
  Calls Tryz.prog 113 #[.int .i64 a0] w fun e w' => e = .returned (.int .i64 r) ∧ ja_ w w' := by
 have H : (pa_.l0 k a0 1 0) = some r := h
 clear h
 have H' := ba_.mk H
 clear H
 go_enter Tryz.func113, Tryz.ntmps113
 go_wp2
 go_loopg [3, 5] k (fun kq v3 v5 w' => ∃ (x3_1 : Int) (x5_1 : Int), v3 = .int .i64 x3_1 ∧ v5 = .int .i64 x5_1 ∧ ba_ (pa_.l0 kq a0 x3_1 x5_1 = some r) ∧ ba_ (kq ≤ k) ∧ ja_ w w')
 case atStart => exact Xs
 case round =>
  clear H'
  try clear c1
  obtain ⟨x3_1, x5_1, rfl, rfl, HA, HK1, ⟨m1, rfl⟩⟩ := hrel
  cases gk with
  | zero => exact absurd HA.out (by simp [pa_.l0])
  | succ k1 =>
   have H := HA.out
   clear HA
   simp only [pa_.l0] at H
   by_cases c2 : x5_1 < 31
   rotate_left
   ·exact Xo
   rw [if_pos c2] at H
   have c2b0 := decide_eq_true c2
   clear c2
   by_cases c3 : x3_1 = a0
   ·exact Xz
   rw [if_neg c3] at H
   have c3b0 : (x3_1 == a0) = false := beq_eq_false_iff_ne.mpr c3
   have c3b1 : (x3_1 != a0) = true := bne_iff_ne.mpr c3
   obtain ⟨t101, A4, H⟩ := Qk H
   try dsimp only at H
   have H' := ba_.mk H
   clear H
   go_wp2_with (first | ((with_reducible refine ia_ (f := 114) rfl ?_); refine gc_ (some 13) rfl rfl Tryz.func114 Qb rfl #[.int .i64 x3_1] rfl Qj ?_; (with_reducible refine (nc_.calls x3_1 t101 _ A4.out).mono ?_); rintro e w' ⟨rfl, ⟨nd, rfl⟩⟩; refine ⟨_, rfl, ?_⟩))
   go_roundg k1
   case measure => have := HK1.out; omega
   case rel => exact ⟨(t101), (wrap64 (x5_1 + 1)), Qi, Qi, H', ⟨Qw⟩, Qp⟩
end Go.Proofs.YtpkhgapifnjbeaaGreatDoor.L
end
section
namespace Go.Proofs.YtpkhgapifnjbeaaGreatDoor.L
open RowKit G Zw.PrintWords Zw.PrintLast Zw.PrintMore
attribute [local go_sem] id_ kd_ vd_ wd_ bd_ cd_ jd_ ld_
mutual
def ga_.l0 : Nat → List Int → List Int → Int → List Int → List Int → Int → Int → Option (List Int × Bool)
 | 0, _, _, _, _, _, _, _ => none
 | k + 1, x0, x1, x2, x8, x30, x31, x32 => if x32 < x31 then (if 0 ≤ x32 then (if x32 < (x30.length : Int) then (if x8.length < 17592186044416 then ((some (x8 ++ [0] : List Int)).bind fun y106 => (ga_.l1 k x0 x1 x2 y106 (rd x30 x32) (wrap64 ((y106.length : Int) - 1)) x30 x31 x32)) else (none)) else (none)) else (none)) else ((ml_.f x0).bind fun t115 => (if 0 ≤ (wrap64 (6 - (x1.length : Int))) then (if (wrap64 (6 - (x1.length : Int)) : Int).toNat ≤ 35184372088832 then ((some (List.replicate (wrap64 (6 - (x1.length : Int)) : Int).toNat 0 : List Int)).bind fun y118 => (ga_.l2 k x0 x1 x2 x8 t115 y118 (y118.length : Int) 0)) else (none)) else (none)))
def ga_.l1 : Nat → List Int → List Int → Int → List Int → Int → Int → List Int → Int → Int → Option (List Int × Bool)
 | 0, _, _, _, _, _, _, _, _, _ => none
 | k + 1, x0, x1, x2, x8, x10, x11, x30, x31, x32 => if x11 > 0 then (if 0 ≤ x11 then (if x11 < (x8.length : Int) then (if 0 ≤ (wrap64 (x11 - 1)) then (if (wrap64 (x11 - 1)) < (x8.length : Int) then ((g_at.f x0 x10 1).bind fun t111 => ((ig_.f (rd x8 (wrap64 (x11 - 1))) t111).bind fun t112 => ((fh_.f (rd x8 x11) t112).bind fun t113 => (ga_.l1 k x0 x1 x2 (x8.set (x11 : Int).toNat t113) x10 (wrap64 (x11 - 1)) x30 x31 x32)))) else (none)) else (none)) else (none)) else (none)) else (ga_.l0 k x0 x1 x2 x8 x30 x31 (wrap64 (x32 + 1)))
def ga_.l2 : Nat → List Int → List Int → Int → List Int → List Int → List Int → Int → Int → Option (List Int × Bool)
 | 0, _, _, _, _, _, _, _, _ => none
 | k + 1, x0, x1, x2, x8, x12, x13, x71, x72 => if x72 < x71 then (ga_.l3 k x0 x1 x2 x8 x12 x13 x72 x71 x72 x8 (x8.length : Int) 0) else (if x2 = 0 then (some (([] : List Int), true)) else (ga_.l4 k x0 x2 x13 ([] : List (List Int)) (wrap64 ((x13.length : Int) - x2)) 0))
def ga_.l3 : Nat → List Int → List Int → Int → List Int → List Int → List Int → Int → Int → Int → List Int → Int → Int → Option (List Int × Bool)
 | 0, _, _, _, _, _, _, _, _, _, _, _, _ => none
 | k + 1, x0, x1, x2, x8, x12, x13, x14, x71, x72, x75, x76, x77 => if x77 < x76 then (if 0 ≤ x77 then (if x77 < (x75.length : Int) then (if 0 ≤ x14 then (if x14 < (x13.length : Int) then (if 0 ≤ (wrap64 ((wrap64 (x14 + (x1.length : Int))) - x77)) then (if (wrap64 ((wrap64 (x14 + (x1.length : Int))) - x77)) < (x12.length : Int) then ((ig_.f (rd x75 x77) (rd x12 (wrap64 ((wrap64 (x14 + (x1.length : Int))) - x77)))).bind fun t124 => ((fh_.f (rd x13 x14) t124).bind fun t125 => (ga_.l3 k x0 x1 x2 x8 x12 (x13.set (x14 : Int).toNat t125) x14 x71 x72 x75 x76 (wrap64 (x77 + 1))))) else (none)) else (none)) else (none)) else (none)) else (none)) else (none)) else (ga_.l2 k x0 x1 x2 x8 x12 x13 x71 (wrap64 (x72 + 1)))
def ga_.l4 : Nat → List Int → Int → List Int → List (List Int) → Int → Int → Option (List Int × Bool)
 | 0, _, _, _, _, _, _ => none
 | k + 1, x0, x2, x13, x17, x107, x108 => if x108 < x107 then (ga_.l5 k x0 x2 x13 x17 x108 ([] : List Int) 1 x107 x108) else ((xh_.f x17).bind fun bt138 => (if bt138.2 = true then (ga_.l6 k x0 x2 bt138.1 ([] : List Int) x0 (x0.length : Int) 0) else (some (([] : List Int), false))))
def ga_.l5 : Nat → List Int → Int → List Int → List (List Int) → Int → List Int → Int → Int → Int → Option (List Int × Bool)
 | 0, _, _, _, _, _, _, _, _, _ => none
 | k + 1, x0, x2, x13, x17, x18, x19, x20, x107, x108 => if x20 ≤ x2 then (if 0 ≤ (wrap64 ((wrap64 (x18 + x2)) - x20)) then (if (wrap64 ((wrap64 (x18 + x2)) - x20)) < (x13.length : Int) then (if x19.length < 17592186044416 then (ga_.l5 k x0 x2 x13 x17 x18 (x19 ++ [rd x13 (wrap64 ((wrap64 (x18 + x2)) - x20))]) (wrap64 (x20 + 1)) x107 x108) else (none)) else (none)) else (none)) else (if 0 ≤ (wrap64 (x18 + x2)) then (if (wrap64 (x18 + x2)) < (x13.length : Int) then (if x19.length < 17592186044416 then (if x17.length < 5864062014805 then (ga_.l4 k x0 x2 x13 (x17 ++ [(x19 ++ [rd x13 (wrap64 (x18 + x2))])]) x107 (wrap64 (x108 + 1))) else (none)) else (none)) else (none)) else (none))
def ga_.l6 : Nat → List Int → Int → List Int → List Int → List Int → Int → Int → Option (List Int × Bool)
 | 0, _, _, _, _, _, _, _ => none
 | k + 1, x0, x2, x21, x23, x147, x148, x149 => if x149 < x148 then (if 0 ≤ x149 then (if x149 < (x147.length : Int) then (ga_.l7 k x0 x2 x21 x23 x149 (rd x147 x149) 1 x147 x148 x149 x21 (x21.length : Int) 0) else (none)) else (none)) else (some (x23, ((x23.length : Int) == x2)))
def ga_.l7 : Nat → List Int → Int → List Int → List Int → Int → Int → Int → List Int → Int → Int → List Int → Int → Int → Option (List Int × Bool)
 | 0, _, _, _, _, _, _, _, _, _, _, _, _, _ => none
 | k + 1, x0, x2, x21, x23, x24, x25, x26, x147, x148, x149, x154, x155, x156 => if x156 < x155 then (if 0 ≤ x156 then (if x156 < (x154.length : Int) then ((g_at.f x0 x24 (wrap64 ((wrap64 (-x156)) - 1))).bind fun t144 => ((ig_.f (rd x154 x156) t144).bind fun t145 => ((fh_.f x26 t145).bind fun t146 => (ga_.l7 k x0 x2 x21 x23 x24 x25 t146 x147 x148 x149 x154 x155 (wrap64 (x156 + 1)))))) else (none)) else (none)) else (if x25 = (-1) then (ga_.l6 k x0 x2 x21 x23 x147 x148 (wrap64 (x149 + 1))) else (if x26 = 0 then (if x23.length < 17592186044416 then (ga_.l6 k x0 x2 x21 (x23 ++ [x24]) x147 x148 (wrap64 (x149 + 1))) else (none)) else (ga_.l6 k x0 x2 x21 x23 x147 x148 (wrap64 (x149 + 1)))))
end
def ga_.f (k : Nat) (l0 : List Int) (l1 : List Int) (a2 : Int) : Option (List Int × Bool) := ga_.l0 k l0 l1 a2 (([1] : List Int)) l1 (l1.length : Int) 0
theorem ga_.yc_ : ∀ k, (∀ y0 y1 y2 y3 y4 y5 y6, LeO (ga_.l0 k y0 y1 y2 y3 y4 y5 y6) (ga_.l0 (k + 1) y0 y1 y2 y3 y4 y5 y6)) ∧ (∀ y0 y1 y2 y3 y4 y5 y6 y7 y8, LeO (ga_.l1 k y0 y1 y2 y3 y4 y5 y6 y7 y8) (ga_.l1 (k + 1) y0 y1 y2 y3 y4 y5 y6 y7 y8)) ∧ (∀ y0 y1 y2 y3 y4 y5 y6 y7, LeO (ga_.l2 k y0 y1 y2 y3 y4 y5 y6 y7) (ga_.l2 (k + 1) y0 y1 y2 y3 y4 y5 y6 y7)) ∧ (∀ y0 y1 y2 y3 y4 y5 y6 y7 y8 y9 y10 y11, LeO (ga_.l3 k y0 y1 y2 y3 y4 y5 y6 y7 y8 y9 y10 y11) (ga_.l3 (k + 1) y0 y1 y2 y3 y4 y5 y6 y7 y8 y9 y10 y11)) ∧ (∀ y0 y1 y2 y3 y4 y5, LeO (ga_.l4 k y0 y1 y2 y3 y4 y5) (ga_.l4 (k + 1) y0 y1 y2 y3 y4 y5)) ∧ (∀ y0 y1 y2 y3 y4 y5 y6 y7 y8, LeO (ga_.l5 k y0 y1 y2 y3 y4 y5 y6 y7 y8) (ga_.l5 (k + 1) y0 y1 y2 y3 y4 y5 y6 y7 y8)) ∧ (∀ y0 y1 y2 y3 y4 y5 y6, LeO (ga_.l6 k y0 y1 y2 y3 y4 y5 y6) (ga_.l6 (k + 1) y0 y1 y2 y3 y4 y5 y6)) ∧ (∀ y0 y1 y2 y3 y4 y5 y6 y7 y8 y9 y10 y11 y12, LeO (ga_.l7 k y0 y1 y2 y3 y4 y5 y6 y7 y8 y9 y10 y11 y12) (ga_.l7 (k + 1) y0 y1 y2 y3 y4 y5 y6 y7 y8 y9 y10 y11 y12))
 | 0 => ⟨fun _ _ _ _ _ _ _ r h => by simp [ga_.l0] at h, fun _ _ _ _ _ _ _ _ _ r h => by simp [ga_.l1] at h, fun _ _ _ _ _ _ _ _ r h => by simp [ga_.l2] at h, fun _ _ _ _ _ _ _ _ _ _ _ _ r h => by simp [ga_.l3] at h, fun _ _ _ _ _ _ r h => by simp [ga_.l4] at h, fun _ _ _ _ _ _ _ _ _ r h => by simp [ga_.l5] at h, fun _ _ _ _ _ _ _ r h => by simp [ga_.l6] at h, fun _ _ _ _ _ _ _ _ _ _ _ _ _ r h => by simp [ga_.l7] at h⟩
 | k + 1 => by
  obtain ⟨ih0, ih1, ih2, ih3, ih4, ih5, ih6, ih7⟩ := ga_.yc_ k
  refine ⟨?_, ?_, ?_, ?_, ?_, ?_, ?_, ?_⟩
  ·intro y0 y1 y2 y3 y4 y5 y6
   unfold ga_.l0
   repeat' first
   | (with_reducible exact ih0 _ _ _ _ _ _ _)
   | (with_reducible exact ih1 _ _ _ _ _ _ _ _ _)
   | (with_reducible exact ih2 _ _ _ _ _ _ _ _)
   | (with_reducible exact ih3 _ _ _ _ _ _ _ _ _ _ _ _)
   | (with_reducible exact ih4 _ _ _ _ _ _)
   | (with_reducible exact ih5 _ _ _ _ _ _ _ _ _)
   | (with_reducible exact ih6 _ _ _ _ _ _ _)
   | (with_reducible exact ih7 _ _ _ _ _ _ _ _ _ _ _ _ _)
   | (with_reducible first | exact LeO.refl _ | exact LeO.none _ | refine LeO.ite ?_ ?_ | refine LeO.bind ?_ (fun _ => ?_))
   | exact ih0 _ _ _ _ _ _ _
   | exact ih1 _ _ _ _ _ _ _ _ _
   | exact ih2 _ _ _ _ _ _ _ _
   | exact ih3 _ _ _ _ _ _ _ _ _ _ _ _
   | exact ih4 _ _ _ _ _ _
   | exact ih5 _ _ _ _ _ _ _ _ _
   | exact ih6 _ _ _ _ _ _ _
   | exact ih7 _ _ _ _ _ _ _ _ _ _ _ _ _
   | exact LeO.none _
   | refine LeO.ite ?_ ?_
   | refine LeO.bind ?_ (fun _ => ?_)
  ·intro y0 y1 y2 y3 y4 y5 y6 y7 y8
   unfold ga_.l1
   repeat' first
   | (with_reducible exact ih0 _ _ _ _ _ _ _)
   | (with_reducible exact ih1 _ _ _ _ _ _ _ _ _)
   | (with_reducible exact ih2 _ _ _ _ _ _ _ _)
   | (with_reducible exact ih3 _ _ _ _ _ _ _ _ _ _ _ _)
   | (with_reducible exact ih4 _ _ _ _ _ _)
   | (with_reducible exact ih5 _ _ _ _ _ _ _ _ _)
   | (with_reducible exact ih6 _ _ _ _ _ _ _)
   | (with_reducible exact ih7 _ _ _ _ _ _ _ _ _ _ _ _ _)
   | (with_reducible first | exact LeO.refl _ | exact LeO.none _ | refine LeO.ite ?_ ?_ | refine LeO.bind ?_ (fun _ => ?_))
   | exact ih0 _ _ _ _ _ _ _
   | exact ih1 _ _ _ _ _ _ _ _ _
   | exact ih2 _ _ _ _ _ _ _ _
   | exact ih3 _ _ _ _ _ _ _ _ _ _ _ _
   | exact ih4 _ _ _ _ _ _
   | exact ih5 _ _ _ _ _ _ _ _ _
   | exact ih6 _ _ _ _ _ _ _
   | exact ih7 _ _ _ _ _ _ _ _ _ _ _ _ _
   | exact LeO.none _
   | refine LeO.ite ?_ ?_
   | refine LeO.bind ?_ (fun _ => ?_)
  ·intro y0 y1 y2 y3 y4 y5 y6 y7
   unfold ga_.l2
   repeat' first
   | (with_reducible exact ih0 _ _ _ _ _ _ _)
   | (with_reducible exact ih1 _ _ _ _ _ _ _ _ _)
   | (with_reducible exact ih2 _ _ _ _ _ _ _ _)
   | (with_reducible exact ih3 _ _ _ _ _ _ _ _ _ _ _ _)
   | (with_reducible exact ih4 _ _ _ _ _ _)
   | (with_reducible exact ih5 _ _ _ _ _ _ _ _ _)
   | (with_reducible exact ih6 _ _ _ _ _ _ _)
   | (with_reducible exact ih7 _ _ _ _ _ _ _ _ _ _ _ _ _)
   | (with_reducible first | exact LeO.refl _ | exact LeO.none _ | refine LeO.ite ?_ ?_ | refine LeO.bind ?_ (fun _ => ?_))
   | exact ih0 _ _ _ _ _ _ _
   | exact ih1 _ _ _ _ _ _ _ _ _
   | exact ih2 _ _ _ _ _ _ _ _
   | exact ih3 _ _ _ _ _ _ _ _ _ _ _ _
   | exact ih4 _ _ _ _ _ _
   | exact ih5 _ _ _ _ _ _ _ _ _
   | exact ih6 _ _ _ _ _ _ _
   | exact ih7 _ _ _ _ _ _ _ _ _ _ _ _ _
   | exact LeO.none _
   | refine LeO.ite ?_ ?_
   | refine LeO.bind ?_ (fun _ => ?_)
  ·intro y0 y1 y2 y3 y4 y5 y6 y7 y8 y9 y10 y11
   unfold ga_.l3
   repeat' first
   | (with_reducible exact ih0 _ _ _ _ _ _ _)
   | (with_reducible exact ih1 _ _ _ _ _ _ _ _ _)
   | (with_reducible exact ih2 _ _ _ _ _ _ _ _)
   | (with_reducible exact ih3 _ _ _ _ _ _ _ _ _ _ _ _)
   | (with_reducible exact ih4 _ _ _ _ _ _)
   | (with_reducible exact ih5 _ _ _ _ _ _ _ _ _)
   | (with_reducible exact ih6 _ _ _ _ _ _ _)
   | (with_reducible exact ih7 _ _ _ _ _ _ _ _ _ _ _ _ _)
   | (with_reducible first | exact LeO.refl _ | exact LeO.none _ | refine LeO.ite ?_ ?_ | refine LeO.bind ?_ (fun _ => ?_))
   | exact ih0 _ _ _ _ _ _ _
   | exact ih1 _ _ _ _ _ _ _ _ _
   | exact ih2 _ _ _ _ _ _ _ _
   | exact ih3 _ _ _ _ _ _ _ _ _ _ _ _
   | exact ih4 _ _ _ _ _ _
   | exact ih5 _ _ _ _ _ _ _ _ _
   | exact ih6 _ _ _ _ _ _ _
   | exact ih7 _ _ _ _ _ _ _ _ _ _ _ _ _
   | exact LeO.none _
   | refine LeO.ite ?_ ?_
   | refine LeO.bind ?_ (fun _ => ?_)
  ·intro y0 y1 y2 y3 y4 y5
   unfold ga_.l4
   repeat' first
   | (with_reducible exact ih0 _ _ _ _ _ _ _)
   | (with_reducible exact ih1 _ _ _ _ _ _ _ _ _)
   | (with_reducible exact ih2 _ _ _ _ _ _ _ _)
   | (with_reducible exact ih3 _ _ _ _ _ _ _ _ _ _ _ _)
   | (with_reducible exact ih4 _ _ _ _ _ _)
   | (with_reducible exact ih5 _ _ _ _ _ _ _ _ _)
   | (with_reducible exact ih6 _ _ _ _ _ _ _)
   | (with_reducible exact ih7 _ _ _ _ _ _ _ _ _ _ _ _ _)
   | (with_reducible first | exact LeO.refl _ | exact LeO.none _ | refine LeO.ite ?_ ?_ | refine LeO.bind ?_ (fun _ => ?_))
   | exact ih0 _ _ _ _ _ _ _
   | exact ih1 _ _ _ _ _ _ _ _ _
   | exact ih2 _ _ _ _ _ _ _ _
   | exact ih3 _ _ _ _ _ _ _ _ _ _ _ _
   | exact ih4 _ _ _ _ _ _
   | exact ih5 _ _ _ _ _ _ _ _ _
   | exact ih6 _ _ _ _ _ _ _
   | exact ih7 _ _ _ _ _ _ _ _ _ _ _ _ _
   | exact LeO.none _
   | refine LeO.ite ?_ ?_
   | refine LeO.bind ?_ (fun _ => ?_)
  ·intro y0 y1 y2 y3 y4 y5 y6 y7 y8
   unfold ga_.l5
   repeat' first
   | (with_reducible exact ih0 _ _ _ _ _ _ _)
   | (with_reducible exact ih1 _ _ _ _ _ _ _ _ _)
   | (with_reducible exact ih2 _ _ _ _ _ _ _ _)
   | (with_reducible exact ih3 _ _ _ _ _ _ _ _ _ _ _ _)
   | (with_reducible exact ih4 _ _ _ _ _ _)
   | (with_reducible exact ih5 _ _ _ _ _ _ _ _ _)
   | (with_reducible exact ih6 _ _ _ _ _ _ _)
   | (with_reducible exact ih7 _ _ _ _ _ _ _ _ _ _ _ _ _)
   | (with_reducible first | exact LeO.refl _ | exact LeO.none _ | refine LeO.ite ?_ ?_ | refine LeO.bind ?_ (fun _ => ?_))
   | exact ih0 _ _ _ _ _ _ _
   | exact ih1 _ _ _ _ _ _ _ _ _
   | exact ih2 _ _ _ _ _ _ _ _
   | exact ih3 _ _ _ _ _ _ _ _ _ _ _ _
   | exact ih4 _ _ _ _ _ _
   | exact ih5 _ _ _ _ _ _ _ _ _
   | exact ih6 _ _ _ _ _ _ _
   | exact ih7 _ _ _ _ _ _ _ _ _ _ _ _ _
   | exact LeO.none _
   | refine LeO.ite ?_ ?_
   | refine LeO.bind ?_ (fun _ => ?_)
  ·intro y0 y1 y2 y3 y4 y5 y6
   unfold ga_.l6
   repeat' first
   | (with_reducible exact ih0 _ _ _ _ _ _ _)
   | (with_reducible exact ih1 _ _ _ _ _ _ _ _ _)
   | (with_reducible exact ih2 _ _ _ _ _ _ _ _)
   | (with_reducible exact ih3 _ _ _ _ _ _ _ _ _ _ _ _)
   | (with_reducible exact ih4 _ _ _ _ _ _)
   | (with_reducible exact ih5 _ _ _ _ _ _ _ _ _)
   | (with_reducible exact ih6 _ _ _ _ _ _ _)
   | (with_reducible exact ih7 _ _ _ _ _ _ _ _ _ _ _ _ _)
   | (with_reducible first | exact LeO.refl _ | exact LeO.none _ | refine LeO.ite ?_ ?_ | refine LeO.bind ?_ (fun _ => ?_))
   | exact ih0 _ _ _ _ _ _ _
   | exact ih1 _ _ _ _ _ _ _ _ _
   | exact ih2 _ _ _ _ _ _ _ _
   | exact ih3 _ _ _ _ _ _ _ _ _ _ _ _
   | exact ih4 _ _ _ _ _ _
   | exact ih5 _ _ _ _ _ _ _ _ _
   | exact ih6 _ _ _ _ _ _ _
   | exact ih7 _ _ _ _ _ _ _ _ _ _ _ _ _
   | exact LeO.none _
   | refine LeO.ite ?_ ?_
   | refine LeO.bind ?_ (fun _ => ?_)
  intro y0 y1 y2 y3 y4 y5 y6 y7 y8 y9 y10 y11 y12
  unfold ga_.l7
  repeat' first
  | (with_reducible exact ih0 _ _ _ _ _ _ _)
  | (with_reducible exact ih1 _ _ _ _ _ _ _ _ _)
  | (with_reducible exact ih2 _ _ _ _ _ _ _ _)
  | (with_reducible exact ih3 _ _ _ _ _ _ _ _ _ _ _ _)
  | (with_reducible exact ih4 _ _ _ _ _ _)
  | (with_reducible exact ih5 _ _ _ _ _ _ _ _ _)
  | (with_reducible exact ih6 _ _ _ _ _ _ _)
  | (with_reducible exact ih7 _ _ _ _ _ _ _ _ _ _ _ _ _)
  | (with_reducible first | exact LeO.refl _ | exact LeO.none _ | refine LeO.ite ?_ ?_ | refine LeO.bind ?_ (fun _ => ?_))
  | exact ih0 _ _ _ _ _ _ _
  | exact ih1 _ _ _ _ _ _ _ _ _
  | exact ih2 _ _ _ _ _ _ _ _
  | exact ih3 _ _ _ _ _ _ _ _ _ _ _ _
  | exact ih4 _ _ _ _ _ _
  | exact ih5 _ _ _ _ _ _ _ _ _
  | exact ih6 _ _ _ _ _ _ _
  | exact ih7 _ _ _ _ _ _ _ _ _ _ _ _ _
  | exact LeO.none _
  | refine LeO.ite ?_ ?_
  | refine LeO.bind ?_ (fun _ => ?_)
theorem ga_.mono : ∀ a0 a1 a2 k, LeO (ga_.f k a0 a1 a2) (ga_.f (k + 1) a0 a1 a2) := by
 intro a0 a1 a2 k
 obtain ⟨ih0, ih1, ih2, ih3, ih4, ih5, ih6, ih7⟩ := ga_.yc_ k
 unfold ga_.f
 repeat' first
   | (with_reducible exact ih0 _ _ _ _ _ _ _)
   | (with_reducible exact ih1 _ _ _ _ _ _ _ _ _)
   | (with_reducible exact ih2 _ _ _ _ _ _ _ _)
   | (with_reducible exact ih3 _ _ _ _ _ _ _ _ _ _ _ _)
   | (with_reducible exact ih4 _ _ _ _ _ _)
   | (with_reducible exact ih5 _ _ _ _ _ _ _ _ _)
   | (with_reducible exact ih6 _ _ _ _ _ _ _)
   | (with_reducible exact ih7 _ _ _ _ _ _ _ _ _ _ _ _ _)
   | (with_reducible first | exact LeO.refl _ | exact LeO.none _ | refine LeO.ite ?_ ?_ | refine LeO.bind ?_ (fun _ => ?_))
   | exact ih0 _ _ _ _ _ _ _
   | exact ih1 _ _ _ _ _ _ _ _ _
   | exact ih2 _ _ _ _ _ _ _ _
   | exact ih3 _ _ _ _ _ _ _ _ _ _ _ _
   | exact ih4 _ _ _ _ _ _
   | exact ih5 _ _ _ _ _ _ _ _ _
   | exact ih6 _ _ _ _ _ _ _
   | exact ih7 _ _ _ _ _ _ _ _ _ _ _ _ _
   | exact LeO.none _
   | refine LeO.ite ?_ ?_
   | refine LeO.bind ?_ (fun _ => ?_)
def ga_.T9 : Bool × List (List Nat × List Nat) := (true, [([], []), ([], []), ([], []), ([], []), ([2, 3], [2, 3]), ([4], [4]), ([], []), ([], []), ([7], [7]), ([6, 8], [6, 8]), ([9], [9]), ([], []), ([], []), ([11, 12], [11, 12]), ([10, 13, 13], [10, 13]), ([5, 14, 14], [5, 14]), ([0, 1, 0, 1, 2, 3, 4, 5, 6, 7, 8, 9, 10, 11, 12, 13, 14, 15], [0, 1]), ([16, 15, 15, 0, 1, 2, 3, 4, 5, 6, 7, 8, 9, 10, 11, 12, 13, 14, 15], [15, 16])])
def ga_.B9 : List Nat := [0, 0, 0, 0, 12, 28, 0, 0, 128, 448, 960, 0, 0, 6144, 16320, 32764, 65535, 131071]
theorem ga_.tab9 : rtab .any (opsOf Tryz.f81 9) = ga_.T9 := by kernel_rfl
theorem ga_.bits9 : vg_ ga_.T9.2 ga_.B9 = true := by kernel_rfl
def ga_.T19 : Bool × List (List Nat × List Nat) := (true, [([], []), ([], []), ([], []), ([], []), ([2, 3], [2, 3]), ([4], [4]), ([], []), ([], []), ([], []), ([8], [8]), ([7, 9], [7, 9]), ([], []), ([10, 11], [10, 11]), ([12], [12]), ([13], [13]), ([6, 14], [6, 14]), ([5, 15, 15], [5, 15]), ([0, 1, 0, 1, 2, 3, 4, 5, 6, 7, 8, 9, 10, 11, 12, 13, 14, 15, 16], [0, 1]), ([17, 16, 16, 0, 1, 2, 3, 4, 5, 6, 7, 8, 9, 10, 11, 12, 13, 14, 15, 16], [16, 17])])
def ga_.B19 : List Nat := [0, 0, 0, 0, 12, 28, 0, 0, 0, 256, 896, 0, 3968, 8064, 16256, 32704, 65532, 131071, 262143]
theorem ga_.tab19 : rtab .any (opsOf Tryz.f81 19) = ga_.T19 := by kernel_rfl
theorem ga_.bits19 : vg_ ga_.T19.2 ga_.B19 = true := by kernel_rfl
set_option maxHeartbeats 8000000 in
set_option maxRecDepth 100000 in
theorem ga_.calls (k : Nat) (A0 : Option Addr) (c0 : Nat) (l0 : List Int) (A1 : Option Addr) (c1 : Nat) (l1 : List Int) (a2 : Int) (r1 : List Int) (r2 : Bool) (w : World) (hr0 : Kd.C (Kd.int .i64) w A0 l0.length l0) (hc0 : l0.length ≤ c0) (hr1 : Kd.C (Kd.int .i64) w A1 l1.length l1) (hc1 : l1.length ≤ c1) (h : ga_.f k l0 l1 a2 = some (r1, r2)) :
  Calls Tryz.prog 81 #[.slice A0 l0.length c0, .slice A1 l1.length c1, .int .i64 a2] w fun e w' => ∃ v0_ : Value, e = .returned (.tuple #[v0_, .bool r2]) ∧ Kd.R (Kd.int .i64) 3 w' w.heap.size (fun _ => True) v0_ r1 ∧ Below w.heap.size w w' := by
 have HR0 := ba_.mk hr0
 have HC0 := ba_.mk hc0
 clear hr0 hc0
 have HR1 := ba_.mk hr1
 have HC1 := ba_.mk hc1
 clear hr1 hc1
 have HB := ba_.mk (Below.refl w.heap.size w)
 have H : (ga_.l0 k l0 l1 a2 (([1] : List Int)) l1 (l1.length : Int) 0) = some (r1, r2) := h
 clear h
 obtain ⟨y102, hy102⟩ : ∃ y_ : List Int, y_ = (([1] : List Int)) := ⟨_, rfl⟩
 replace H : (ga_.l0 k l0 l1 a2 y102 l1 (l1.length : Int) 0) = some (r1, r2) := by first | (rw [hy102]; with_reducible exact H) | (have H2_ := (Option.bind_some _ _).symm.trans H; rw [hy102]; with_reducible exact H2_) | (have H2_ := (Option.bind_some _ _).symm.trans H; with_reducible exact H2_) | with_reducible exact H | (rw [hy102]; exact H) | exact H
 have Ny102 := ba_.mk hy102
 clear hy102
 have H' := ba_.mk H
 clear H
 go_enter Tryz.func81, Tryz.ntmps81
 go_wp2_with (first | ((with_reducible refine md_ (N := 29) rfl ?_); refine Kd.sm_ (Kd.int .i64) _ 87 ?hg (N := 29) ?hd (xs := ([1] : List Int)) (inner := [.int .i64 1]) (ok := fun _ => True) (okp := fun _ => True) ?hr ?hp (fun _ hk => hk) trivial (Below.refl _ _) (Nat.le_refl _) Qo ?_; (case hd => rfl); (case hg => rfl); (case hr => exact Qt); (case hp => exact (Reps.one (show Kd.M (Kd.int .i64) _ _ _ 1 [.int .i64 1] from rfl) (Reps.none _ _))); intro v103 w4 ho5 hb hg_ hnew_; clear hg_ hnew_; (first | rw [← Ny102.out] at ho5 | (simp only [Int.reduceToNat] at ho5; rw [← Ny102.out] at ho5)); have n0_ := ba_.mk (Kd.td_ ho5 (za_ Qe)); have n1_ := ba_.mk (wa_ Qe hb); clear HB; have HO104 := n0_; have HB := n1_; clear n0_ n1_; clear hb ho5))
 go_loopg [8, 32] k (fun kq v8 v32 w' => ∃ (x8_1 : List Int) (x32_1 : Int), v32 = .int .i64 x32_1 ∧ ba_ (ga_.l0 kq l0 l1 a2 x8_1 l1 (l1.length : Int) x32_1 = some (r1, r2)) ∧ ba_ (kq ≤ k) ∧ ba_ (Kd.R (Kd.int .i64) 87 w' w.heap.size (fun _ => True) v8 x8_1) ∧ ba_ (Below w.heap.size w w'))
 case atStart => exact ⟨(y102), (0), Qi, H', ⟨Nat.le_refl _⟩, ⟨by (with_reducible repeat (first | apply Kd.eb_ | apply Kd.fb_ | apply Kd.rb_)); exact HO104.out⟩, ⟨Qe⟩⟩
 case round =>
  clear H'
  try clear c1
  try clear p2
  obtain ⟨x8_1, x32_1, rfl, HA, HK1, HO_8, HB⟩ := hrel
  cases gk with
  | zero => exact absurd HA.out (by simp [ga_.l0])
  | succ k1 =>
   have H := HA.out
   clear HA
   simp only [ga_.l0] at H
   by_cases c6 : x32_1 < (l1.length : Int)
   ·rw [if_pos c6] at H
    have c6b0 := decide_eq_true c6
    clear c6
    obtain ⟨c7, H⟩ := Qn H
    have c7b0 := decide_eq_true c7
    clear c7
    obtain ⟨c8, H⟩ := Qn H
    have c8b0 := decide_eq_true c8
    clear c8
    obtain ⟨c9, H⟩ := Qn H
    have LMc9 := ba_.mk c9
    clear c9
    obtain ⟨y106, hy106⟩ : ∃ y_ : List Int, y_ = (x8_1 ++ [0]) := ⟨_, rfl⟩
    replace H : (ga_.l1 k1 l0 l1 a2 y106 (rd l1 x32_1) (wrap64 ((y106.length : Int) - 1)) l1 (l1.length : Int) x32_1) = some (r1, r2) := by first | (rw [hy106]; with_reducible exact H) | (have H2_ := (Option.bind_some _ _).symm.trans H; rw [hy106]; with_reducible exact H2_) | (have H2_ := (Option.bind_some _ _).symm.trans H; with_reducible exact H2_) | with_reducible exact H | (rw [hy106]; exact H) | exact H
    have Ny106 := ba_.mk hy106
    clear hy106
    have H' := ba_.mk H
    clear H
    have p105 : 0 ≤ (x32_1 : Int) := of_decide_eq_true Qg
    have q105 : x32_1 < (l1.length : Int) := of_decide_eq_true Qg
    obtain ⟨ad105, e105, hx105_0⟩ := Kd.sd_ HR1.out x32_1 p105 q105
    cases e105
    replace hx105_0 := (HB.out.cell (World.block_lt_of_cell? w _ hx105_0)).trans hx105_0
    replace p105 := eq_true p105
    replace q105 := eq_true q105
    go_wp2_with (first | ((with_reducible refine xd_ (b := .append) (xs := #[.tmp 36, .tmp 37]) rfl ?_); at_builtin; refine Kd.qf_ (Kd.int .i64) (w0 := w) w.heap.size rfl (.tmp 36) (.tmp 37) 124 87 (.int .i64 0) 8 rfl Tryz.underlying124 mn_ rfl Qh Qa u8 x8_1 0 [.int .i64 0] (fun _ => True) (fun _ => False) rfl rfl ?aP (fun _ hk => hk.elim) ?aF ?aO ?aB ?aS ?aL ?_; (case aP => exact rfl); (case aB => exact Q3); (case aF => exact Xc); (case aO => exact (Ql HO_8.out)); (case aS => exact Q4); (case aL => have := LMc9.out; omega); intro v107 w10 ho hb hg hat; rw [← Ny106.out] at ho; have n0_ := ba_.mk (hb); have n1_ := ba_.mk (ho); clear HB; clear HO_8; have HB := n0_; have HO108 := n1_; clear n0_ n1_; clear ho hb hg hat; obtain ⟨Ao11, co11, eo11⟩ := Kd.pd_ HO108.out; subst eo11))
    go_loopg [11] k1 (fun kq v11 w' => ∃ (x8_2 : List Int) (x11_2 : Int), v11 = .int .i64 x11_2 ∧ ba_ (ga_.l1 kq l0 l1 a2 x8_2 (rd l1 x32_1) x11_2 l1 (l1.length : Int) x32_1 = some (r1, r2)) ∧ ba_ (kq ≤ k1) ∧ ba_ (Kd.R (Kd.int .i64) 87 w' w.heap.size (fun _ => True) (.slice Ao11 y106.length co11) x8_2) ∧ ba_ (Below w.heap.size w w'))
    case atStart => exact ⟨(y106), (wrap64 ((y106.length : Int) - 1)), Qi, H', ⟨Nat.le_refl _⟩, ⟨by (with_reducible repeat (first | apply Kd.eb_ | apply Kd.fb_ | apply Kd.rb_)); exact HO108.out⟩, ⟨Qe⟩⟩
    case round =>
     clear H'
     try clear c1
     try clear p1
     try clear q1
     try clear hx1
     try clear p2
     try clear c6
     try clear c6b0
     try clear p6
     try clear c7
     try clear c7b0
     try clear c8
     try clear c8b0
     try clear c9
     try clear p10
     try clear q10
     try clear hx10
     try clear hx105_0
     try clear p105
     try clear p2
     try clear q105
     obtain ⟨x8_2, x11_2, rfl, HA, HK2, HO_8, HB⟩ := hrel
     have hl8_2 := (Kd.cc_ HO_8.out).1
     rw [hl8_2] at HO_8
     (try simp only [hl8_2])
     cases gk with
     | zero => exact absurd HA.out (by simp [ga_.l1])
     | succ k2 =>
      have H := HA.out
      clear HA
      simp only [ga_.l1] at H
      by_cases c12 : x11_2 > 0
      rotate_left
      ·rw [if_neg c12] at H
       have c12b0 : decide (0 < x11_2) = false := decide_eq_false c12
       clear c12
       have H' := ba_.mk H
       clear H
       go_wp2
       (try simp only [← hl8_2])
       go_roundg k2
       case measure => exact Xi
       case rel => exact ⟨(x8_2), (wrap64 (x32_1 + 1)), Qi, H', ⟨Xj⟩, ⟨by (try simp only [hl8_2]); (with_reducible repeat (first | apply Kd.eb_ | apply Kd.fb_ | apply Kd.rb_)); exact HO_8.out⟩, ⟨Qe⟩⟩
      rw [if_pos c12] at H
      have c12b0 : decide (0 < x11_2) = true := decide_eq_true c12
      clear c12
      obtain ⟨c13, H⟩ := Qn H
      have c13b0 := decide_eq_true c13
      clear c13
      obtain ⟨c14, H⟩ := Qn H
      have c14b0 := decide_eq_true c14
      clear c14
      obtain ⟨ji15, hji15⟩ : ∃ j_ : Int, (wrap64 (x11_2 - 1)) = j_ := ⟨_, rfl⟩
      replace H : (if 0 ≤ (ji15) then (if (ji15) < (x8_2.length : Int) then ((g_at.f l0 (rd l1 x32_1) 1).bind fun t111 => ((ig_.f (rd x8_2 (ji15)) t111).bind fun t112 => ((fh_.f (rd x8_2 x11_2) t112).bind fun t113 => (ga_.l1 k2 l0 l1 a2 (x8_2.set (x11_2 : Int).toNat t113) (rd l1 x32_1) ji15 l1 (l1.length : Int) x32_1)))) else (none)) else (none)) = some (r1, r2) := by first | (rw [hji15] at H; exact H) | (simp only [hji15] at H ⊢; exact H)
      have hji15w : (IntKind.i64.wrap (x11_2 - 1)) = ji15 := (yb_ _).trans hji15
      obtain ⟨c16, H⟩ := Qn H
      have c16b0 := decide_eq_true c16
      clear c16
      obtain ⟨c17, H⟩ := Qn H
      have c17b0 := decide_eq_true c17
      clear c17
      obtain ⟨t111, A18, H⟩ := Qk H
      try dsimp only at H
      obtain ⟨t112, A19, H⟩ := Qk H
      try dsimp only at H
      obtain ⟨t113, A20, H⟩ := Qk H
      try dsimp only at H
      obtain ⟨y114, hy114⟩ : ∃ y_ : List Int, y_ = (x8_2.set (x11_2 : Int).toNat t113) := ⟨_, rfl⟩
      replace H : (ga_.l1 k2 l0 l1 a2 y114 (rd l1 x32_1) ji15 l1 (l1.length : Int) x32_1) = some (r1, r2) := by first | (rw [hy114]; with_reducible exact H) | (have H2_ := (Option.bind_some _ _).symm.trans H; rw [hy114]; with_reducible exact H2_) | (have H2_ := (Option.bind_some _ _).symm.trans H; with_reducible exact H2_) | with_reducible exact H | (rw [hy114]; exact H) | exact H
      have Ny114 := ba_.mk hy114
      clear hy114
      have H' := ba_.mk H
      clear H
      try go_wp2
      have n0_ := ba_.mk (Kd.rb_ HO_8.out)
      have n1_ := ba_.mk (ca_ HB.out)
      clear HO_8
      clear HB
      have HO_8 := n0_
      have HB := n1_
      clear n0_ n1_
      have p109 : 0 ≤ (x11_2 : Int) := of_decide_eq_true Qg
      have q109 : x11_2 < (x8_2.length : Int) := of_decide_eq_true Qg
      obtain ⟨ad109, e109, hx109_0⟩ := Kd.sd_ (Kd.cc_ HO_8.out).2.2 x11_2 p109 q109
      cases e109
      replace p109 := eq_true p109
      replace q109 := eq_true q109
      have p110 : 0 ≤ ((ji15) : Int) := of_decide_eq_true Qg
      have q110 : (ji15) < (x8_2.length : Int) := of_decide_eq_true Qg
      obtain ⟨ad110, e110, hx110_0⟩ := Kd.sd_ (Kd.cc_ HO_8.out).2.2 (ji15) p110 q110
      obtain rfl : ad109 = ad110 := (by injection e110)
      replace p110 := eq_true p110
      replace q110 := eq_true q110
      refine kh_ (n := 18) (S := fun w' => w'.cell? (ad109.add (x11_2).toNat) = some (.int .i64 (rd x8_2 x11_2)) ∧ w'.cell? (ad109.add ((ji15)).toNat) = some (.int .i64 (rd x8_2 (ji15)))) (ds := [17]) Qah Qb rfl rfl ⟨hx109_0, hx110_0⟩ (fun hHeld => ?_); refine lh_ ga_.tab9 ga_.bits9 (fun HT_ HW_ => ?_)
      generalize wr.drew = w22 at HO_8 HB hx109_0 hx110_0 hHeld ⊢
      refine oc_ (i := 0) (N := some 46) (v := ?_) (a' := ?_) Qap rfl rfl Qm Qd (Or.inl ⟨by rfl, ?_⟩) ?_ ?_
      rotate_left
      ·exact Qf
      rotate_left
      ·exact Qc
      refine oc_ (i := 1) (N := some 47) (v := ?_) (a' := ?_) Qas rfl rfl Qm Qd (Or.inl ⟨by rfl, ?_⟩) ?_ ?_
      rotate_left
      ·exact Qf
      rotate_left
      ·exact Qc
      refine oc_ (i := 2) (N := some 48) (v := ?_) (a' := ?_) #[true, true, true, false, false, false, false, false, false, false, false, false, false, false, false, false, false, false] rfl rfl Qm Qd (Or.inl ⟨by rfl, ?_⟩) ?_ ?_
      rotate_left
      ·exact Qf
      rotate_left
      ·exact Qc
      refine oc_ (i := 3) (N := some 49) (v := ?_) (a' := ?_) #[true, true, true, true, false, false, false, false, false, false, false, false, false, false, false, false, false, false] rfl rfl Qm Qd (Or.inl ⟨by rfl, ?_⟩) ?_ ?_
      rotate_left
      ·exact Qf
      rotate_left
      ·exact Qc
      refine oc_ (i := 4) (N := some 50) (v := ?_) (a' := ?_) #[true, true, true, true, true, false, false, false, false, false, false, false, false, false, false, false, false, false] rfl rfl Qm Qd (Or.inl ⟨by rfl, ?_⟩) ?_ ?_
      rotate_left
      ·exact Qf
      rotate_left
      ·exact Qc
      refine oc_ (i := 6) (N := some 52) (v := ?_) (a' := ?_) #[true, true, true, true, true, false, true, false, false, false, false, false, false, false, false, false, false, false] rfl rfl Qm Qd (Or.inl ⟨by rfl, ?_⟩) ?_ ?_
      rotate_left
      ·exact Qf
      rotate_left
      ·exact Qc
      refine oc_ (i := 7) (N := some 53) (v := ?_) (a' := ?_) #[true, true, true, true, true, false, true, true, false, false, false, false, false, false, false, false, false, false] rfl rfl Qm Qd (Or.inl ⟨by rfl, ?_⟩) ?_ ?_
      rotate_left
      ·exact Qf
      rotate_left
      ·exact Qc
      refine oc_ (i := 8) (N := some 54) (v := ?_) (a' := ?_) #[true, true, true, true, true, false, true, true, true, false, false, false, false, false, false, false, false, false] rfl rfl Qm Qd (Or.inl ⟨by rfl, ?_⟩) ?_ ?_
      rotate_left
      ·exact Qf
      rotate_left
      ·exact Qc
      refine oc_ (i := 9) (N := some 55) (v := ?_) (a' := ?_) #[true, true, true, true, true, false, true, true, true, true, false, false, false, false, false, false, false, false] rfl rfl Qm Qd (Or.inl ⟨by rfl, ?_⟩) ?_ ?_
      rotate_left
      ·exact Qf
      rotate_left
      ·exact Qc
      refine oc_ (i := 11) (N := some 57) (v := ?_) (a' := ?_) #[true, true, true, true, true, false, true, true, true, true, false, true, false, false, false, false, false, false] rfl rfl Qm Qd (Or.inl ⟨by rfl, ?_⟩) ?_ ?_
      rotate_left
      ·exact Qf
      rotate_left
      ·exact Qc
      refine oc_ (i := 12) (N := some 58) (v := ?_) (a' := ?_) #[true, true, true, true, true, false, true, true, true, true, false, true, true, false, false, false, false, false] rfl rfl Qm Qd (Or.inl ⟨by rfl, ?_⟩) ?_ ?_
      rotate_left
      ·exact Qf
      rotate_left
      ·exact Qc
      refine df_ (i := 5) (N := some 51) (v := ?_) (a' := ?_) #[true, true, true, true, true, true, true, true, true, true, false, true, true, false, false, false, false, false] rfl rfl (ie_ HT_.out HW_.out Qb) Qd (Or.inl ⟨by rfl, ?_⟩) hHeld ?_ ?_
      rotate_left
      ·exact Xd
      rotate_left
      ·exact Qc
      refine df_ (i := 10) (N := some 56) (v := ?_) (a' := ?_) Qa3 rfl rfl (ie_ HT_.out HW_.out Qb) Qd (Or.inl ⟨by rfl, ?_⟩) hHeld ?_ ?_
      rotate_left
      ·exact Xd
      rotate_left
      ·exact Qc
      refine one_ (i := 13) (N := some 59) Qbe rfl rfl Xb Qh (fun K hK => ?_)
      refine un_ Tryz.func95 Qb rfl #[.slice A0 l0.length c0, .int .i64 (rd l1 x32_1), .int .i64 1] (by rfl) rfl rfl Qj ?_
      with_reducible refine (g_at.calls _ _ l0 (rd l1 x32_1) 1 t111 _ ?side1 ?side2 A18.out).mono ?_
      (case side1 => exact Q9)
      (case side2 => exact HC0.out)
      rintro e w' ⟨rfl, ⟨nd, rfl⟩⟩
      refine ⟨_, rfl, ?_⟩
      refine hK.out _ _ ⟨hHeld.1, hHeld.2⟩ (fun hHeld => ?_)
      clear hK K
      refine kk_ (a' := ?_) ?_ ?_
      rotate_left
      ·show Act.put _ (some 59) _ = _
       simp only [Act.put, List.setIfInBounds_toArray, List.set_cons_zero, List.set_cons_succ, yb_, ac_]
       rfl
      refine one_ (i := 14) (N := some 60) Qbp rfl rfl Xb Qh (fun K hK => ?_)
      refine un_ Tryz.func116 Qb rfl #[.int .i64 (rd x8_2 (ji15)), .int .i64 t111] (by rfl) rfl rfl (by (try simp only [List.map_toArray, List.map_cons, List.map_nil]); first | done | (simp only [hji15]; rfl) | rfl | (simp only [List.length_drop, List.length_take]; rfl)) ?_
      with_reducible refine (ig_.calls (rd x8_2 (ji15)) t111 t112 _ A19.out).mono ?_
      rintro e w' ⟨rfl, ⟨nd, rfl⟩⟩
      refine ⟨_, rfl, ?_⟩
      refine hK.out _ _ ⟨hHeld.1, hHeld.2⟩ (fun hHeld => ?_)
      clear hK K
      refine kk_ (a' := ?_) ?_ ?_
      rotate_left
      ·show Act.put _ (some 60) _ = _
       simp only [Act.put, List.setIfInBounds_toArray, List.set_cons_zero, List.set_cons_succ, yb_, ac_]
       rfl
      refine one_ (i := 15) (N := some 61) Qb0 rfl rfl Xb Qh (fun K hK => ?_)
      refine un_ Tryz.func115 Qb rfl #[.int .i64 (rd x8_2 x11_2), .int .i64 t112] (by rfl) rfl rfl Qj ?_
      with_reducible refine (fh_.calls (rd x8_2 x11_2) t112 t113 _ A20.out).mono ?_
      rintro e w' ⟨rfl, ⟨nd, rfl⟩⟩
      refine ⟨_, rfl, ?_⟩
      have p21 : 0 ≤ (x11_2 : Int) := of_decide_eq_true Qg
      have q21 : (x11_2 : Int) < ((x8_2.length : Int) : Int) := of_decide_eq_true Qg
      obtain ⟨go21, co21, eo21, gb21, gl21, cl21, HG21⟩ := Kd.mi_ HO_8.out Qa
      (first | cases eo21 | (injection eo21 with ea_ en_ ec_; (first | subst ea_ | (injection ea_ with ea_; subst ea_)); subst ec_; clear en_))
      have GB21 := ba_.mk gb21
      have GG21 := ba_.mk HG21
      clear gb21 gl21 HG21
      (first | simp only [add_plain] at hx109_0 | skip)
      (first | simp only [add_plain] at hx110_0 | skip)
      obtain ⟨hx21_0, hf21_0⟩ := Kd.sg_ 0 HO_8.out (x11_2 : Int) p21 q21
      replace p21 := eq_true p21
      replace q21 := eq_true q21
      have HP23 := Kd.jn_ HO_8.out (x11_2 : Int) t113
      rw [← Ny114.out] at HP23
      have HQ23 := ba_.mk HP23
      clear HP23
      refine hK.out _ _ ⟨hHeld.1, hHeld.2⟩ (fun hHeld => ?_)
      clear hK K
      refine kk_ (a' := ?_) ?_ ?_
      rotate_left
      ·show Act.put _ (some 61) _ = _
       simp only [Act.put, List.setIfInBounds_toArray, List.set_cons_zero, List.set_cons_succ, yb_, ac_]
       rfl
      refine oc_ (i := 16) (N := some 62) (v := ?_) (a' := ?_) Qcb rfl rfl Qm Qd (Or.inl ⟨by rfl, ?_⟩) ?_ ?_
      rotate_left
      ·exact Qf
      rotate_left
      ·exact Qc
      refine np_ (i := 17) (N := none) Qce rfl rfl Xb Qh (fun K hK => ?_)
      refine xl_ (w1 := ?_) (by rfl) rfl ?_ ?_
      rotate_left
      ·go_simp
       rfl
      refine hK.out _ _ ?_
      clear hK K
      refine jk_ Xw ?_
      try go_wp2
      (try simp only [← hl8_2])
      go_roundg k2
      case measure => exact Xi
      case rel => exact ⟨(y114), (ji15), (by first | rfl | (simp; done) | (simp only [← hji15] <;> (first | rfl | simp)) | (simp [*]; done)), H', ⟨Xj⟩, ⟨by (try simp only [hl8_2]); (with_reducible repeat (first | apply Kd.eb_ | apply Kd.fb_ | apply Kd.rb_)); exact HQ23.out⟩, ⟨by repeat (first | (with_reducible first | exact HB.out | apply da_ | apply aa_ | apply ca_ | refine sa_ ?_ GB21.out) | exact HB.out)⟩⟩
   rw [if_neg c6] at H
   have c6b0 := decide_eq_false c6
   clear c6
   obtain ⟨t115, A24, H⟩ := Qk H
   try dsimp only at H
   obtain ⟨ji25, hji25⟩ : ∃ j_ : Int, (wrap64 (6 - (l1.length : Int))) = j_ := ⟨_, rfl⟩
   replace H : (if 0 ≤ (ji25) then (if (ji25 : Int).toNat ≤ 35184372088832 then ((some (List.replicate (ji25 : Int).toNat 0 : List Int)).bind fun y118 => (ga_.l2 k1 l0 l1 a2 x8_1 t115 y118 (y118.length : Int) 0)) else (none)) else (none)) = some (r1, r2) := by first | (rw [hji25] at H; exact H) | (simp only [hji25] at H ⊢; exact H)
   (try rw [hji25] at A24)
   have hji25w : (IntKind.i64.wrap (6 - (l1.length : Int))) = ji25 := (yb_ _).trans hji25
   by_cases c26 : 0 ≤ (ji25)
   rotate_left
   ·rw [if_neg c26] at H
    exact absurd H Qo
   rw [if_pos c26] at H
   have c26b0 := eq_true c26
   have c26b1 := decide_eq_true c26
   clear c26
   by_cases c27 : (ji25 : Int).toNat ≤ 35184372088832
   rotate_left
   ·rw [if_neg c27] at H
    exact absurd H Qo
   rw [if_pos c27] at H
   have c27b0 := eq_true c27
   have c27b1 := decide_eq_true c27
   clear c27
   obtain ⟨y118, hy118⟩ : ∃ y_ : List Int, y_ = (List.replicate (ji25 : Int).toNat 0) := ⟨_, rfl⟩
   replace H : (ga_.l2 k1 l0 l1 a2 x8_1 t115 y118 (y118.length : Int) 0) = some (r1, r2) := by first | (rw [hy118]; with_reducible exact H) | (have H2_ := (Option.bind_some _ _).symm.trans H; rw [hy118]; with_reducible exact H2_) | (have H2_ := (Option.bind_some _ _).symm.trans H; with_reducible exact H2_) | with_reducible exact H | (rw [hy118]; exact H) | exact H
   have Ny118 := ba_.mk hy118
   clear hy118
   have H' := ba_.mk H
   clear H
   go_wp2_with (first | ((with_reducible refine ia_ (f := 45) rfl ?_); refine gc_ (some 65) rfl rfl Tryz.func45 Qb rfl #[.slice A0 l0.length c0] rfl Qj ?_; (with_reducible refine (ml_.calls _ _ l0 t115 _ ?side1 ?side2 A24.out).mono ?_); (case side1 => exact Q9); (case side2 => exact HC0.out); rintro e w28 ⟨v116, hv9, rfl, hb⟩; refine ⟨_, rfl, ?_⟩; have HV9 := ba_.mk hv9; clear hv9; have HS9 := ba_.mk (ed1_ HV9.out (zi_ A24.out)); have HT9 := ba_.mk (gg1_ HV9.out (zi_ A24.out)); have HU9 := ba_.mk (fg1_ HV9.out); have n0_ := ba_.mk (Kd.ne_ (Ql HO_8.out) hb); have n2_ := ba_.mk (wa_ Qe hb); clear HO_8; clear HB; have HO_8 := n0_; have HB := n2_; clear n0_ n2_; (try clear hb); (try clear hb2); (try clear hk); (try clear hi)) | (refine wpList_store_row rfl 88 _ _ rfl w28.heap.size v116 rfl rfl 88 _ (heap_alloc_new _ _) HS9.out HT9.out HU9.out ?_; rw [World.setRow_alloc_new]; have HO117 := ba_.mk (eg1_ 88 w28 w.heap.size HV9.out (zi_ A24.out) (za_ HB.out)); have n0_ := ba_.mk (Kd.eb_ HO_8.out (.cells v116 88)); have n1_ := ba_.mk (da_ HB.out (.cells v116 88)); clear HO_8; clear HB; have HO_8 := n0_; have HB := n1_; clear n0_ n1_; generalize w28.alloc (.cells v116 88) = w28b at HO_8 HB HO117 ⊢) | ((with_reducible refine md_ (N := 69) rfl ?_); refine Kd.oo_ (Kd.int .i64) _ 87 rfl (N := 69) rfl 124 _ _ rfl ji25 rfl rfl Tryz.underlying124 (.int .i64 0) 8 mn_ rfl Qh Qa 0 (ok := fun _ => True) (okp := fun _ => True) rfl (fun _ hk => hk) trivial (of_decide_eq_true Qg) (Nat.le_trans (Nat.mul_le_mul_right _ (of_decide_eq_true Qg : ji25.toNat ≤ 35184372088832)) Qa) (Below.refl _ _) (Nat.le_refl _) ?_; intro v119 w29 ho30 hb hg_ hnew_; clear hg_ hnew_; (first | rw [← Ny118.out] at ho30 | (simp only [Int.reduceToNat] at ho30; rw [← Ny118.out] at ho30)); have n0_ := ba_.mk (Kd.ke_ (Ql HO_8.out) (Kd.if_ ho30) hb); have n1_ := ba_.mk (Kd.ne_ (Ql HO117.out) hb); have n2_ := ba_.mk (Kd.td_ (Kd.hf_ ho30 (Kd.R_lt (Ql HO_8.out))) (za_ Qe)); have n3_ := ba_.mk (wa_ Qe hb); clear HO_8; clear HO117; clear HB; have HO_8 := n0_; have HO117 := n1_; have HO120 := n2_; have HB := n3_; clear n0_ n1_ n2_ n3_; clear hb ho30; obtain ⟨Ao31, co31, eo31⟩ := Kd.pd_ HO120.out; subst eo31))
   go_loopg [72] k1 (fun kq v72 w' => ∃ (x13_2 : List Int) (x72_2 : Int), v72 = .int .i64 x72_2 ∧ ba_ (ga_.l2 kq l0 l1 a2 x8_1 t115 x13_2 (y118.length : Int) x72_2 = some (r1, r2)) ∧ ba_ (kq ≤ k1) ∧ ba_ (Kd.R (Kd.int .i64) 87 w' w.heap.size (fun k_ => some k_ ≠ ((.slice Ao31 y118.length co31) : Value).ownBlock) u8 x8_1) ∧ ba_ (Kd.R (Kd.int .i64) 88 w' w.heap.size (fun _ => True) (.slice (some ⟨w28.heap.size, 0, none⟩) 6 6) t115) ∧ ba_ (Kd.R (Kd.int .i64) 87 w' w.heap.size (fun k_ => some k_ ≠ (u8 : Value).ownBlock) (.slice Ao31 y118.length co31) x13_2) ∧ ba_ (Below w.heap.size w w'))
   case atStart => exact ⟨(y118), (0), Qi, H', ⟨Nat.le_refl _⟩, ⟨by (with_reducible repeat (first | apply Kd.eb_ | apply Kd.fb_ | apply Kd.rb_)); exact Kd.rd_ HO_8.out (fun _ hk => hk.2)⟩, ⟨by (with_reducible repeat (first | apply Kd.eb_ | apply Kd.fb_ | apply Kd.rb_)); exact HO117.out⟩, ⟨by (with_reducible repeat (first | apply Kd.eb_ | apply Kd.fb_ | apply Kd.rb_)); exact Kd.rd_ HO120.out (fun _ hk => hk.2)⟩, ⟨Qe⟩⟩
   case round =>
    clear H'
    try clear c1
    try clear p1
    try clear q1
    try clear hx1
    try clear c2
    try clear p2
    try clear q2
    try clear hx2
    try clear c4
    try clear c6
    try clear c6b0
    try clear p6
    try clear c7
    try clear c7b0
    try clear c8
    try clear c8b0
    try clear c9
    try clear p10
    try clear q10
    try clear hx10
    try clear c11
    try clear p11
    try clear q11
    try clear hx11
    try clear c12
    try clear c12b0
    try clear c13
    try clear c13b0
    try clear c14
    try clear c14b0
    try clear c16
    try clear c16b0
    try clear c17
    try clear c17b0
    try clear p21
    try clear q21
    try clear hx21
    try clear hf21
    try clear c26
    try clear c26b0
    try clear c26b1
    try clear c27
    try clear c27b0
    try clear c27b1
    try clear hx105_0
    try clear hx109_0
    try clear hx110_0
    try clear hx21_0
    try clear p1
    try clear p10
    try clear p105
    try clear p109
    try clear p110
    try clear p2
    try clear p21
    try clear p6
    try clear q1
    try clear q10
    try clear q105
    try clear q109
    try clear q110
    try clear q21
    obtain ⟨x13_2, x72_2, rfl, HA, HK2, HO_8, HO_12, HO_13, HB⟩ := hrel
    have hl13_2 := (Kd.cc_ HO_13.out).1
    rw [hl13_2] at HO_13
    (try simp only [hl13_2])
    (try simp only [hl13_2] at HO_8)
    (try simp only [hl13_2] at HO_12)
    cases gk with
    | zero => exact absurd HA.out (by simp [ga_.l2])
    | succ k2 =>
     have H := HA.out
     clear HA
     simp only [ga_.l2] at H
     by_cases c32 : x72_2 < (y118.length : Int)
     ·rw [if_pos c32] at H
      have c32b0 := decide_eq_true c32
      (try simp only [hl13_2] at c32b0)
      clear c32
      have H' := ba_.mk H
      clear H
      obtain ⟨Ao33, co33, eo33⟩ := Kd.pd_ HO_8.out
      subst eo33
      go_wp2
      go_loopg [77] k2 (fun kq v77 w' => ∃ (x13_3 : List Int) (x77_3 : Int), v77 = .int .i64 x77_3 ∧ ba_ (ga_.l3 kq l0 l1 a2 x8_1 t115 x13_3 x72_2 (y118.length : Int) x72_2 x8_1 (x8_1.length : Int) x77_3 = some (r1, r2)) ∧ ba_ (kq ≤ k2) ∧ ba_ (Kd.R (Kd.int .i64) 87 w' w.heap.size (fun k_ => some k_ ≠ ((.slice Ao31 x13_2.length co31) : Value).ownBlock) (.slice Ao33 x8_1.length co33) x8_1) ∧ ba_ (Kd.R (Kd.int .i64) 88 w' w.heap.size (fun _ => True) (.slice (some ⟨w28.heap.size, 0, none⟩) 6 6) t115) ∧ ba_ (Kd.R (Kd.int .i64) 87 w' w.heap.size (fun k_ => some k_ ≠ ((.slice Ao33 x8_1.length co33) : Value).ownBlock ∧ some k_ ≠ ((.slice Ao33 x8_1.length co33) : Value).ownBlock) (.slice Ao31 x13_2.length co31) x13_3) ∧ ba_ (Kd.R (Kd.int .i64) 87 w' w.heap.size (fun k_ => some k_ ≠ ((.slice Ao31 x13_2.length co31) : Value).ownBlock) (.slice Ao33 x8_1.length co33) x8_1) ∧ ba_ (Below w.heap.size w w'))
      case atStart => exact ⟨(x13_2), (0), Qi, H', ⟨Nat.le_refl _⟩, ⟨by (try simp only [hl13_2]); (with_reducible repeat (first | apply Kd.eb_ | apply Kd.fb_ | apply Kd.rb_)); exact HO_8.out⟩, ⟨by (try simp only [hl13_2]); (with_reducible repeat (first | apply Kd.eb_ | apply Kd.fb_ | apply Kd.rb_)); exact HO_12.out⟩, ⟨by (try simp only [hl13_2]); (with_reducible repeat (first | apply Kd.eb_ | apply Kd.fb_ | apply Kd.rb_)); exact Kd.rd_ HO_13.out (fun _ hk => ⟨hk, hk⟩)⟩, ⟨by (try simp only [hl13_2]); (with_reducible repeat (first | apply Kd.eb_ | apply Kd.fb_ | apply Kd.rb_)); exact HO_8.out⟩, ⟨Qe⟩⟩
      case round =>
       clear H'
       try clear c1
       try clear p1
       try clear q1
       try clear hx1
       try clear c2
       try clear p2
       try clear q2
       try clear hx2
       try clear c3
       try clear c4
       try clear c6
       try clear c6b0
       try clear p6
       try clear c7
       try clear c7b0
       try clear c8
       try clear c8b0
       try clear c9
       try clear p10
       try clear q10
       try clear hx10
       try clear c11
       try clear p11
       try clear q11
       try clear hx11
       try clear c12
       try clear c12b0
       try clear c13
       try clear c13b0
       try clear c14
       try clear c14b0
       try clear c16
       try clear c16b0
       try clear c17
       try clear c17b0
       try clear p21
       try clear q21
       try clear hx21
       try clear hf21
       try clear c26
       try clear c26b0
       try clear c26b1
       try clear c27
       try clear c27b0
       try clear c27b1
       try clear c32
       try clear c32b0
       try clear hx105_0
       try clear hx109_0
       try clear hx110_0
       try clear hx21_0
       try clear p1
       try clear p10
       try clear p105
       try clear p109
       try clear p11
       try clear p110
       try clear p2
       try clear p21
       try clear p6
       try clear q1
       try clear q10
       try clear q105
       try clear q109
       try clear q11
       try clear q110
       try clear q2
       try clear q21
       obtain ⟨x13_3, x77_3, rfl, HA, HK3, HO_8, HO_12, HO_13, HO_75, HB⟩ := hrel
       have hl13_3 := (Kd.cc_ HO_13.out).1
       rw [hl13_3] at HO_13
       (try simp only [hl13_3])
       (try simp only [hl13_3] at HO_8)
       (try simp only [hl13_3] at HO_12)
       (try simp only [hl13_3] at HO_75)
       cases gk with
       | zero => exact absurd HA.out (by simp [ga_.l3])
       | succ k3 =>
        have H := HA.out
        clear HA
        simp only [ga_.l3] at H
        by_cases c34 : x77_3 < (x8_1.length : Int)
        rotate_left
        ·rw [if_neg c34] at H
         have c34b0 := decide_eq_false c34
         clear c34
         have H' := ba_.mk H
         clear H
         go_wp2
         (try simp only [← hl13_2, ← hl13_3])
         go_roundg k3
         case measure => exact Yc
         case rel => exact ⟨(x13_3), (wrap64 (x72_2 + 1)), Qi, H', ⟨Yg⟩, ⟨by (try simp only [hl13_2]); (try simp only [hl13_3]); (with_reducible repeat (first | apply Kd.eb_ | apply Kd.fb_ | apply Kd.rb_)); exact HO_8.out⟩, ⟨by (try simp only [hl13_2]); (try simp only [hl13_3]); (with_reducible repeat (first | apply Kd.eb_ | apply Kd.fb_ | apply Kd.rb_)); exact HO_12.out⟩, ⟨by (try simp only [hl13_2]); (try simp only [hl13_3]); (with_reducible repeat (first | apply Kd.eb_ | apply Kd.fb_ | apply Kd.rb_)); exact Kd.rd_ HO_13.out (fun _ hk => hk.1)⟩, ⟨Qe⟩⟩
        rw [if_pos c34] at H
        have c34b0 := decide_eq_true c34
        clear c34
        by_cases c35 : 0 ≤ x77_3
        rotate_left
        ·rw [if_neg c35] at H
         exact absurd H Qo
        rw [if_pos c35] at H
        have c35b0 := decide_eq_true c35
        clear c35
        by_cases c36 : x77_3 < (x8_1.length : Int)
        rotate_left
        ·rw [if_neg c36] at H
         exact absurd H Qo
        rw [if_pos c36] at H
        have c36b0 := decide_eq_true c36
        clear c36
        by_cases c37 : 0 ≤ x72_2
        rotate_left
        ·rw [if_neg c37] at H
         exact absurd H Qo
        rw [if_pos c37] at H
        have c37b0 := decide_eq_true c37
        clear c37
        by_cases c38 : x72_2 < (x13_3.length : Int)
        rotate_left
        ·rw [if_neg c38] at H
         exact absurd H Qo
        rw [if_pos c38] at H
        have c38b0 := decide_eq_true c38
        clear c38
        obtain ⟨ji39, hji39⟩ : ∃ j_ : Int, (wrap64 ((wrap64 (x72_2 + (l1.length : Int))) - x77_3)) = j_ := ⟨_, rfl⟩
        replace H : (if 0 ≤ (ji39) then (if (ji39) < (t115.length : Int) then ((ig_.f (rd x8_1 x77_3) (rd t115 (ji39))).bind fun t124 => ((fh_.f (rd x13_3 x72_2) t124).bind fun t125 => (ga_.l3 k3 l0 l1 a2 x8_1 t115 (x13_3.set (x72_2 : Int).toNat t125) x72_2 (y118.length : Int) x72_2 x8_1 (x8_1.length : Int) (wrap64 (x77_3 + 1))))) else (none)) else (none)) = some (r1, r2) := by first | (rw [hji39] at H; exact H) | (simp only [hji39] at H ⊢; exact H)
        have hji39w : (IntKind.i64.wrap ((wrap64 (x72_2 + (l1.length : Int))) - x77_3)) = ji39 := (yb_ _).trans hji39
        by_cases c40 : 0 ≤ (ji39)
        rotate_left
        ·rw [if_neg c40] at H
         exact absurd H Qo
        rw [if_pos c40] at H
        have c40b0 := decide_eq_true c40
        clear c40
        by_cases c41 : (ji39) < (t115.length : Int)
        rotate_left
        ·rw [if_neg c41] at H
         exact absurd H Qo
        rw [if_pos c41] at H
        have c41b0 := decide_eq_true c41
        clear c41
        obtain ⟨t124, A42, H⟩ := Qk H
        try dsimp only at H
        obtain ⟨t125, A43, H⟩ := Qk H
        try dsimp only at H
        obtain ⟨y126, hy126⟩ : ∃ y_ : List Int, y_ = (x13_3.set (x72_2 : Int).toNat t125) := ⟨_, rfl⟩
        replace H : (ga_.l3 k3 l0 l1 a2 x8_1 t115 y126 x72_2 (y118.length : Int) x72_2 x8_1 (x8_1.length : Int) (wrap64 (x77_3 + 1))) = some (r1, r2) := by first | (rw [hy126]; with_reducible exact H) | (have H2_ := (Option.bind_some _ _).symm.trans H; rw [hy126]; with_reducible exact H2_) | (have H2_ := (Option.bind_some _ _).symm.trans H; with_reducible exact H2_) | with_reducible exact H | (rw [hy126]; exact H) | exact H
        have Ny126 := ba_.mk hy126
        clear hy126
        have H' := ba_.mk H
        clear H
        have p121 : 0 ≤ (x77_3 : Int) := of_decide_eq_true Qg
        have q121 : x77_3 < (x8_1.length : Int) := of_decide_eq_true Qg
        obtain ⟨ad121, e121, hx121_0⟩ := Kd.sd_ (Kd.cc_ HO_75.out).2.2 x77_3 p121 q121
        cases e121
        replace p121 := eq_true p121
        replace q121 := eq_true q121
        try go_wp2
        have n0_ := ba_.mk (Kd.rb_ HO_8.out)
        have n1_ := ba_.mk (Kd.rb_ HO_12.out)
        have n2_ := ba_.mk (Kd.rb_ HO_13.out)
        have n3_ := ba_.mk (Kd.rb_ HO_75.out)
        have n4_ := ba_.mk (ca_ HB.out)
        clear HO_8
        clear HO_12
        clear HO_13
        clear HO_75
        clear HB
        have HO_8 := n0_
        have HO_12 := n1_
        have HO_13 := n2_
        have HO_75 := n3_
        have HB := n4_
        clear n0_ n1_ n2_ n3_ n4_
        have p122 : 0 ≤ (x72_2 : Int) := of_decide_eq_true Qg
        have q122 : x72_2 < (x13_3.length : Int) := of_decide_eq_true Qg
        obtain ⟨ad122, e122, hx122_0⟩ := Kd.sd_ (Kd.cc_ HO_13.out).2.2 x72_2 p122 q122
        cases e122
        replace p122 := eq_true p122
        replace q122 := eq_true q122
        obtain ⟨Ao46, co46, eo46⟩ := Kd.pd_ HO_12.out
        (first | subst eo46 | (injection eo46 with f1_ f2_ f3_; have f4_ := f1_.symm; have f5_ := f3_.symm; clear f1_ f2_ f3_; subst f4_; subst f5_))
        have p123 : 0 ≤ ((ji39) : Int) := of_decide_eq_true Qg
        have q123 : (ji39) < (t115.length : Int) := of_decide_eq_true Qg
        obtain ⟨ad123, e123, hx123_0⟩ := Kd.sd_ (Kd.cc_ HO_12.out).2.2 (ji39) p123 q123
        cases e123
        simp only [add_plain] at hx123_0
        have q6_ : (ji39 < 6) = True := eq_true (by have h6_ := zi_ A24.out; omega)
        replace p123 := eq_true p123
        replace q123 := eq_true q123
        refine kh_ (n := 19) (S := fun w' => w'.cell? (ad122.add (x72_2).toNat) = some (.int .i64 (rd x13_3 x72_2)) ∧ w'.cell? ⟨w28.heap.size, (ji39).toNat, none⟩ = some (.int .i64 (rd t115 (ji39)))) (ds := [18]) Qaf Qb rfl rfl ⟨hx122_0, hx123_0⟩ (fun hHeld => ?_); refine lh_ ga_.tab19 ga_.bits19 (fun HT_ HW_ => ?_)
        generalize wr.drew = w45 at HO_8 HO_12 HO_13 HO_75 HB hx122_0 hx123_0 hHeld ⊢
        refine oc_ (i := 0) (N := some 82) (v := ?_) (a' := ?_) Qag rfl rfl Qm Qd (Or.inl ⟨by rfl, ?_⟩) ?_ ?_
        rotate_left
        ·exact Qf
        rotate_left
        ·exact Qc
        refine oc_ (i := 1) (N := some 83) (v := ?_) (a' := ?_) Qai rfl rfl Qm Qd (Or.inl ⟨by rfl, ?_⟩) ?_ ?_
        rotate_left
        ·exact Qf
        rotate_left
        ·exact Qc
        refine oc_ (i := 2) (N := some 84) (v := ?_) (a' := ?_) Qaj rfl rfl Qm Qd (Or.inl ⟨by rfl, ?_⟩) ?_ ?_
        rotate_left
        ·exact Qf
        rotate_left
        ·exact Qc
        refine oc_ (i := 3) (N := some 85) (v := ?_) (a' := ?_) #[true, true, true, true, false, false, false, false, false, false, false, false, false, false, false, false, false, false, false] rfl rfl Qm Qd (Or.inl ⟨by rfl, ?_⟩) ?_ ?_
        rotate_left
        ·exact Qf
        rotate_left
        ·exact Qc
        refine oc_ (i := 4) (N := some 86) (v := ?_) (a' := ?_) #[true, true, true, true, true, false, false, false, false, false, false, false, false, false, false, false, false, false, false] rfl rfl Qm Qd (Or.inl ⟨by rfl, ?_⟩) ?_ ?_
        rotate_left
        ·exact Qf
        rotate_left
        ·exact Qc
        refine oc_ (i := 6) (N := some 88) (v := ?_) (a' := ?_) #[true, true, true, true, true, false, true, false, false, false, false, false, false, false, false, false, false, false, false] rfl rfl Qm Qd (Or.inl ⟨by rfl, ?_⟩) ?_ ?_
        rotate_left
        ·exact Qf
        rotate_left
        ·exact Qc
        refine oc_ (i := 7) (N := some 89) (v := ?_) (a' := ?_) #[true, true, true, true, true, false, true, true, false, false, false, false, false, false, false, false, false, false, false] rfl rfl Qm Qd (Or.inl ⟨by rfl, ?_⟩) ?_ ?_
        rotate_left
        ·exact Qf
        rotate_left
        ·exact Qc
        refine oc_ (i := 8) (N := some 90) (v := ?_) (a' := ?_) #[true, true, true, true, true, false, true, true, true, false, false, false, false, false, false, false, false, false, false] rfl rfl Qm Qd (Or.inl ⟨by rfl, ?_⟩) ?_ ?_
        rotate_left
        ·exact Qf
        rotate_left
        ·exact Qc
        refine oc_ (i := 9) (N := some 91) (v := ?_) (a' := ?_) #[true, true, true, true, true, false, true, true, true, true, false, false, false, false, false, false, false, false, false] rfl rfl Qm Qd (Or.inl ⟨by rfl, ?_⟩) ?_ ?_
        rotate_left
        ·exact Qf
        rotate_left
        ·exact Qc
        refine oc_ (i := 10) (N := some 92) (v := ?_) (a' := ?_) #[true, true, true, true, true, false, true, true, true, true, true, false, false, false, false, false, false, false, false] rfl rfl Qm Qd (Or.inl ⟨by rfl, ?_⟩) ?_ ?_
        rotate_left
        ·exact Qf
        rotate_left
        ·exact Qc
        refine oc_ (i := 11) (N := some 93) (v := ?_) (a' := ?_) #[true, true, true, true, true, false, true, true, true, true, true, true, false, false, false, false, false, false, false] rfl rfl Qm Qd (Or.inl ⟨by rfl, ?_⟩) ?_ ?_
        rotate_left
        ·exact Qf
        rotate_left
        ·exact Qc
        refine oc_ (i := 12) (N := some 94) (v := ?_) (a' := ?_) #[true, true, true, true, true, false, true, true, true, true, true, true, true, false, false, false, false, false, false] rfl rfl Qm Qd (Or.inl ⟨by rfl, ?_⟩) ?_ ?_
        rotate_left
        ·exact Qf
        rotate_left
        ·exact Qc
        refine oc_ (i := 13) (N := some 95) (v := ?_) (a' := ?_) #[true, true, true, true, true, false, true, true, true, true, true, true, true, true, false, false, false, false, false] rfl rfl Qm Qd (Or.inl ⟨by rfl, ?_⟩) ?_ ?_
        rotate_left
        ·exact Qf
        rotate_left
        ·exact Qc
        refine df_ (i := 5) (N := some 87) (v := ?_) (a' := ?_) #[true, true, true, true, true, true, true, true, true, true, true, true, true, true, false, false, false, false, false] rfl rfl (ie_ HT_.out HW_.out Qb) Qd (Or.inl ⟨by rfl, ?_⟩) hHeld ?_ ?_
        rotate_left
        ·exact Xd
        rotate_left
        ·exact Qc
        refine df_ (i := 14) (N := some 96) (v := ?_) (a' := ?_) Qak rfl rfl (ie_ HT_.out HW_.out Qb) Qd (Or.inl ⟨by rfl, ?_⟩) hHeld ?_ ?_
        rotate_left
        ·exact Xd
        rotate_left
        ·exact Qc
        refine one_ (i := 15) (N := some 97) Qal rfl rfl Xb Qh (fun K hK => ?_)
        refine un_ Tryz.func116 Qb rfl #[.int .i64 (rd x8_1 x77_3), .int .i64 (rd t115 (ji39))] (by rfl) rfl rfl (by (try simp only [List.map_toArray, List.map_cons, List.map_nil]); first | done | (simp only [hji39]; rfl) | rfl | (simp only [List.length_drop, List.length_take]; rfl)) ?_
        with_reducible refine (ig_.calls (rd x8_1 x77_3) (rd t115 (ji39)) t124 _ A42.out).mono ?_
        rintro e w' ⟨rfl, ⟨nd, rfl⟩⟩
        refine ⟨_, rfl, ?_⟩
        refine hK.out _ _ ⟨hHeld.1, hHeld.2⟩ (fun hHeld => ?_)
        clear hK K
        refine kk_ (a' := ?_) ?_ ?_
        rotate_left
        ·show Act.put _ (some 97) _ = _
         simp only [Act.put, List.setIfInBounds_toArray, List.set_cons_zero, List.set_cons_succ, yb_, ac_]
         rfl
        refine one_ (i := 16) (N := some 98) Qam rfl rfl Xb Qh (fun K hK => ?_)
        refine un_ Tryz.func115 Qb rfl #[.int .i64 (rd x13_3 x72_2), .int .i64 t124] (by rfl) rfl rfl Qj ?_
        with_reducible refine (fh_.calls (rd x13_3 x72_2) t124 t125 _ A43.out).mono ?_
        rintro e w' ⟨rfl, ⟨nd, rfl⟩⟩
        refine ⟨_, rfl, ?_⟩
        have p44 : 0 ≤ (x72_2 : Int) := of_decide_eq_true Qg
        have q44 : (x72_2 : Int) < ((x13_3.length : Int) : Int) := of_decide_eq_true Qg
        obtain ⟨go44, co44, eo44, gb44, gl44, cl44, HG44⟩ := Kd.mi_ HO_13.out Qa
        (first | cases eo44 | (injection eo44 with ea_ en_ ec_; (first | subst ea_ | (injection ea_ with ea_; subst ea_)); subst ec_; clear en_))
        have GB44 := ba_.mk gb44
        have GG44 := ba_.mk HG44
        clear gb44 gl44 HG44
        (first | simp only [add_plain] at hx122_0 | skip)
        obtain ⟨hx44_0, hf44_0⟩ := Kd.sg_ 0 HO_13.out (x72_2 : Int) p44 q44
        replace p44 := eq_true p44
        replace q44 := eq_true q44
        have HP47 := Kd.jn_ HO_13.out (x72_2 : Int) t125
        rw [← Ny126.out] at HP47
        have HQ47 := ba_.mk HP47
        clear HP47
        refine hK.out _ _ ⟨hHeld.1, hHeld.2⟩ (fun hHeld => ?_)
        clear hK K
        refine kk_ (a' := ?_) ?_ ?_
        rotate_left
        ·show Act.put _ (some 98) _ = _
         simp only [Act.put, List.setIfInBounds_toArray, List.set_cons_zero, List.set_cons_succ, yb_, ac_]
         rfl
        refine oc_ (i := 17) (N := some 99) (v := ?_) (a' := ?_) Qan rfl rfl Qm Qd (Or.inl ⟨by rfl, ?_⟩) ?_ ?_
        rotate_left
        ·exact Qf
        rotate_left
        ·exact Qc
        refine np_ (i := 18) (N := none) Qao rfl rfl Xb Qh (fun K hK => ?_)
        refine xl_ (w1 := ?_) (by rfl) rfl ?_ ?_
        rotate_left
        ·go_simp
         rfl
        refine hK.out _ _ ?_
        clear hK K
        refine jk_ Xw ?_
        try go_wp2
        (try simp only [← hl13_3])
        go_roundg k3
        case measure => exact Yc
        case rel => exact ⟨(y126), (wrap64 (x77_3 + 1)), Qi, H', ⟨Yg⟩, ⟨by (try simp only [hl13_2]); (try simp only [hl13_3]); (with_reducible repeat (first | apply Kd.eb_ | apply Kd.fb_ | apply Kd.rb_)); exact Kd.rd_ (Kd.jf_ (p := ⟨go44, (x72_2 : Int).toNat, none⟩) (Kd.rd_ HO_8.out (fun k_ hk => (⟨hk, fun e_ => hk (by rw [e_]; rfl)⟩ : _ ∧ k_ ≠ go44))) (fun _ hk => hk.2) (.int .i64 t125)) (fun _ hk => hk.1)⟩, ⟨by (try simp only [hl13_2]); (try simp only [hl13_3]); (with_reducible repeat (first | apply Kd.eb_ | apply Kd.fb_ | apply Kd.rb_)); exact Kd.rd_ (Kd.jf_ (p := ⟨go44, (x72_2 : Int).toNat, none⟩) (Kd.th_ HO_12.out GG44.out Qh) (fun _ hk => hk.2) (.int .i64 t125)) (fun _ hk => trivial)⟩, ⟨by (try simp only [hl13_2]); (try simp only [hl13_3]); (with_reducible repeat (first | apply Kd.eb_ | apply Kd.fb_ | apply Kd.rb_)); exact HQ47.out⟩, ⟨by (try simp only [hl13_2]); (try simp only [hl13_3]); (with_reducible repeat (first | apply Kd.eb_ | apply Kd.fb_ | apply Kd.rb_)); exact Kd.rd_ (Kd.jf_ (p := ⟨go44, (x72_2 : Int).toNat, none⟩) (Kd.rd_ HO_75.out (fun k_ hk => (⟨hk, fun e_ => hk (by rw [e_]; rfl)⟩ : _ ∧ k_ ≠ go44))) (fun _ hk => hk.2) (.int .i64 t125)) (fun _ hk => hk.1)⟩, ⟨by repeat (first | (with_reducible first | exact HB.out | apply da_ | apply aa_ | apply ca_ | refine sa_ ?_ GB44.out) | exact HB.out)⟩⟩
     rw [if_neg c32] at H
     have c32b0 := decide_eq_false c32
     (try simp only [hl13_2] at c32b0)
     clear c32
     by_cases c48 : a2 = 0
     ·rw [if_pos c48] at H
      have c48b0 : (a2 == 0) = true := beq_iff_eq.mpr c48
      have c48b1 : (a2 != 0) = false := bne_eq_false_iff_eq.mpr c48
      clear c48
      simp only [Option.some.injEq, Prod.mk.injEq] at H
      obtain ⟨rfl, rfl⟩ := H
      go_wp2
      go_ret2
      exact ⟨_, by first | rfl | (simp [ta_, ua_] <;> rfl) | (simp only [← hji25]; first | rfl | (simp [ta_, ua_] <;> rfl)) | (simp [*, ta_, ua_] <;> rfl), Q5, Qe⟩
     rw [if_neg c48] at H
     have c48b0 : (a2 == 0) = false := beq_eq_false_iff_ne.mpr c48
     have c48b1 : (a2 != 0) = true := bne_iff_ne.mpr c48
     have H' := ba_.mk H
     clear H
     go_wp2
     go_loopg [17, 108] k2 (fun kq v17 v108 w' => ∃ (x17_3 : List (List Int)) (x108_3 : Int), v108 = .int .i64 x108_3 ∧ ba_ (ga_.l4 kq l0 a2 x13_2 x17_3 (wrap64 ((x13_2.length : Int) - a2)) x108_3 = some (r1, r2)) ∧ ba_ (kq ≤ k2) ∧ ba_ (Kd.R (Kd.int .i64) 87 w' w.heap.size (fun _ => True) (.slice Ao31 x13_2.length co31) x13_2) ∧ ba_ (Kd.S (Kd.slice 87 (Kd.int .i64)) 124 w' w.heap.size (fun k_ => some k_ ≠ ((.slice Ao31 x13_2.length co31) : Value).ownBlock) v17 x17_3) ∧ ba_ (Below w.heap.size w w'))
     case atStart => exact ⟨(([] : List (List Int))), (0), Qi, H', ⟨Nat.le_refl _⟩, ⟨by (try simp only [hl13_2]); (with_reducible repeat (first | apply Kd.eb_ | apply Kd.fb_ | apply Kd.rb_)); exact Kd.rd_ HO_13.out (fun _ hk => trivial)⟩, ⟨by (try simp only [hl13_2]); first | exact Kd.oh_ _ _ _ _ _ | exact Kd.mh_ _ _ _ _ _ | exact Kd.ph_ _ _ _ _ _ | exact Kd.nh_ _ _ _ _ _ | exact Kd.yf_ _ _ _ _ _⟩, ⟨Qe⟩⟩
     case round =>
      clear H'
      try clear c1
      try clear p1
      try clear q1
      try clear hx1
      try clear c2
      try clear p2
      try clear q2
      try clear hx2
      try clear c3
      try clear c4
      try clear p4
      try clear q4
      try clear hx4
      try clear hf4
      try clear c6
      try clear c6b0
      try clear p6
      try clear c7
      try clear c7b0
      try clear c8
      try clear c8b0
      try clear c9
      try clear p10
      try clear q10
      try clear hx10
      try clear c11
      try clear p11
      try clear q11
      try clear hx11
      try clear c12
      try clear c12b0
      try clear p12
      try clear q12
      try clear hx12
      try clear c13
      try clear c13b0
      try clear c14
      try clear c14b0
      try clear c16
      try clear c16b0
      try clear c17
      try clear c17b0
      try clear p21
      try clear q21
      try clear hx21
      try clear hf21
      try clear c26
      try clear c26b0
      try clear c26b1
      try clear c27
      try clear c27b0
      try clear c27b1
      try clear c32
      try clear c32b0
      try clear c34
      try clear c34b0
      try clear c35
      try clear c35b0
      try clear c36
      try clear c36b0
      try clear c37
      try clear c37b0
      try clear c38
      try clear c38b0
      try clear c40
      try clear c40b0
      try clear c41
      try clear c41b0
      try clear p44
      try clear q44
      try clear hx44
      try clear hf44
      try clear c45
      try clear c48
      try clear c48b0
      try clear c48b1
      try clear hx105_0
      try clear hx109_0
      try clear hx110_0
      try clear hx121_0
      try clear hx122_0
      try clear hx123_0
      try clear hx21_0
      try clear hx44_0
      try clear p1
      try clear p10
      try clear p105
      try clear p109
      try clear p11
      try clear p110
      try clear p121
      try clear p122
      try clear p123
      try clear p2
      try clear p21
      try clear p44
      try clear p6
      try clear q1
      try clear q10
      try clear q105
      try clear q109
      try clear q11
      try clear q110
      try clear q121
      try clear q122
      try clear q123
      try clear q2
      try clear q21
      try clear q44
      obtain ⟨x17_3, x108_3, rfl, HA, HK3, HO_13, HO_17, HB⟩ := hrel
      cases gk with
      | zero => exact absurd HA.out (by simp [ga_.l4])
      | succ k3 =>
       have H := HA.out
       clear HA
       simp only [ga_.l4] at H
       by_cases c49 : x108_3 < (wrap64 ((x13_2.length : Int) - a2))
       ·rw [if_pos c49] at H
        have c49b0 := decide_eq_true c49
        clear c49
        have H' := ba_.mk H
        clear H
        go_wp2
        go_loopg [19, 20] k3 (fun kq v19 v20 w' => ∃ (x19_4 : List Int) (x20_4 : Int), v20 = .int .i64 x20_4 ∧ ba_ (ga_.l5 kq l0 a2 x13_2 x17_3 x108_3 x19_4 x20_4 (wrap64 ((x13_2.length : Int) - a2)) x108_3 = some (r1, r2)) ∧ ba_ (kq ≤ k3) ∧ ba_ (Kd.R (Kd.int .i64) 87 w' w.heap.size (fun k_ => some k_ ≠ (v19 : Value).ownBlock) (.slice Ao31 x13_2.length co31) x13_2) ∧ ba_ (Kd.S (Kd.slice 87 (Kd.int .i64)) 124 w' w.heap.size (fun k_ => some k_ ≠ ((.slice Ao31 x13_2.length co31) : Value).ownBlock ∧ some k_ ≠ (v19 : Value).ownBlock) u17 x17_3) ∧ ba_ (Kd.R (Kd.int .i64) 87 w' w.heap.size (fun k_ => some k_ ≠ ((.slice Ao31 x13_2.length co31) : Value).ownBlock) v19 x19_4) ∧ ba_ (Below w.heap.size w w'))
        case atStart => exact ⟨(([] : List Int)), (1), Qi, H', ⟨Nat.le_refl _⟩, ⟨by (try simp only [hl13_2]); (with_reducible repeat (first | apply Kd.eb_ | apply Kd.fb_ | apply Kd.rb_)); exact Kd.rd_ HO_13.out (fun _ hk => Xe)⟩, ⟨by (try simp only [hl13_2]); (with_reducible repeat (first | apply Kd.nf_ | apply Kd.of_ | apply Kd.rg_)); exact Kd.ol_ HO_17.out (fun _ hk => ⟨hk, Xe⟩)⟩, ⟨by (try simp only [hl13_2]); first | exact Kd.yf_ _ _ _ _ _ | exact Kd.mh_ _ _ _ _ _ | exact Kd.ph_ _ _ _ _ _ | exact Kd.nh_ _ _ _ _ _ | exact Kd.oh_ _ _ _ _ _⟩, ⟨Qe⟩⟩
        case round =>
         clear H'
         try clear c1
         try clear p1
         try clear q1
         try clear hx1
         try clear c2
         try clear p2
         try clear q2
         try clear hx2
         try clear c3
         try clear c4
         try clear p4
         try clear q4
         try clear hx4
         try clear hf4
         try clear c6
         try clear c6b0
         try clear p6
         try clear c7
         try clear c7b0
         try clear c8
         try clear c8b0
         try clear c9
         try clear p10
         try clear q10
         try clear hx10
         try clear c11
         try clear p11
         try clear q11
         try clear hx11
         try clear c12
         try clear c12b0
         try clear p12
         try clear q12
         try clear hx12
         try clear c13
         try clear c13b0
         try clear c14
         try clear c14b0
         try clear c16
         try clear c16b0
         try clear c17
         try clear c17b0
         try clear p21
         try clear q21
         try clear hx21
         try clear hf21
         try clear c26
         try clear c26b0
         try clear c26b1
         try clear c27
         try clear c27b0
         try clear c27b1
         try clear c32
         try clear c32b0
         try clear c34
         try clear c34b0
         try clear c35
         try clear c35b0
         try clear c36
         try clear c36b0
         try clear c37
         try clear c37b0
         try clear c38
         try clear c38b0
         try clear c40
         try clear c40b0
         try clear c41
         try clear c41b0
         try clear p44
         try clear q44
         try clear hx44
         try clear hf44
         try clear c45
         try clear c48
         try clear c48b0
         try clear c48b1
         try clear c49
         try clear c49b0
         try clear hx105_0
         try clear hx109_0
         try clear hx110_0
         try clear hx121_0
         try clear hx122_0
         try clear hx123_0
         try clear hx21_0
         try clear hx44_0
         try clear p1
         try clear p10
         try clear p105
         try clear p109
         try clear p11
         try clear p110
         try clear p12
         try clear p121
         try clear p122
         try clear p123
         try clear p2
         try clear p21
         try clear p4
         try clear p44
         try clear p6
         try clear q1
         try clear q10
         try clear q105
         try clear q109
         try clear q11
         try clear q110
         try clear q12
         try clear q121
         try clear q122
         try clear q123
         try clear q2
         try clear q21
         try clear q4
         try clear q44
         obtain ⟨x19_4, x20_4, rfl, HA, HK4, HO_13, HO_17, HO_19, HB⟩ := hrel
         cases gk with
         | zero => exact absurd HA.out (by simp [ga_.l5])
         | succ k4 =>
          have H := HA.out
          clear HA
          simp only [ga_.l5] at H
          by_cases c50 : x20_4 ≤ a2
          ·rw [if_pos c50] at H
           have c50b0 := decide_eq_true c50
           clear c50
           obtain ⟨ji51, hji51⟩ : ∃ j_ : Int, (wrap64 ((wrap64 (x108_3 + a2)) - x20_4)) = j_ := ⟨_, rfl⟩
           replace H : (if 0 ≤ (ji51) then (if (ji51) < (x13_2.length : Int) then (if x19_4.length < 17592186044416 then (ga_.l5 k4 l0 a2 x13_2 x17_3 x108_3 (x19_4 ++ [rd x13_2 (ji51)]) (wrap64 (x20_4 + 1)) (wrap64 ((x13_2.length : Int) - a2)) x108_3) else (none)) else (none)) else (none)) = some (r1, r2) := by first | (rw [hji51] at H; exact H) | (simp only [hji51] at H ⊢; exact H)
           have hji51w : (IntKind.i64.wrap ((wrap64 (x108_3 + a2)) - x20_4)) = ji51 := (yb_ _).trans hji51
           by_cases c52 : 0 ≤ (ji51)
           rotate_left
           ·rw [if_neg c52] at H
            exact absurd H Qo
           rw [if_pos c52] at H
           have c52b0 := decide_eq_true c52
           clear c52
           by_cases c53 : (ji51) < (x13_2.length : Int)
           rotate_left
           ·rw [if_neg c53] at H
            exact absurd H Qo
           rw [if_pos c53] at H
           have c53b0 := decide_eq_true c53
           clear c53
           by_cases c54 : x19_4.length < 17592186044416
           rotate_left
           ·rw [if_neg c54] at H
            exact absurd H Qo
           rw [if_pos c54] at H
           have LMc54 := ba_.mk c54
           clear c54
           obtain ⟨y128, hy128⟩ : ∃ y_ : List Int, y_ = (x19_4 ++ [rd x13_2 (ji51)]) := ⟨_, rfl⟩
           replace H : (ga_.l5 k4 l0 a2 x13_2 x17_3 x108_3 y128 (wrap64 (x20_4 + 1)) (wrap64 ((x13_2.length : Int) - a2)) x108_3) = some (r1, r2) := by first | (rw [hy128]; with_reducible exact H) | (have H2_ := (Option.bind_some _ _).symm.trans H; rw [hy128]; with_reducible exact H2_) | (have H2_ := (Option.bind_some _ _).symm.trans H; with_reducible exact H2_) | with_reducible exact H | (rw [hy128]; exact H) | exact H
           have Ny128 := ba_.mk hy128
           clear hy128
           have H' := ba_.mk H
           clear H
           have p127 : 0 ≤ ((ji51) : Int) := of_decide_eq_true Qg
           have q127 : (ji51) < (x13_2.length : Int) := of_decide_eq_true Qg
           obtain ⟨ad127, e127, hx127_0⟩ := Kd.sd_ (Kd.cc_ HO_13.out).2.2 (ji51) p127 q127
           cases e127
           replace p127 := eq_true p127
           replace q127 := eq_true q127
           go_wp2_with (first | ((with_reducible refine xd_ (b := .append) (xs := #[.tmp 116, .tmp 125]) rfl ?_); at_builtin; refine Kd.qf_ (Kd.int .i64) (w0 := w) w.heap.size rfl (.tmp 116) (.tmp 125) 124 87 (.int .i64 0) 8 rfl Tryz.underlying124 mn_ rfl Qh Qa u19 x19_4 (rd x13_2 (ji51)) [.int .i64 (rd x13_2 (ji51))] (fun k_ => some k_ ≠ (.slice (some ad127) x13_2.length co31 : Value).ownBlock) (fun _ => False) rfl rfl ?aP (fun _ hk => hk.elim) ?aF ?aO ?aB ?aS ?aL ?_; (case aP => exact rfl); (case aB => exact Q3); (case aF => exact (fun k_ hk => Kd.fresh' (Kd.R_lt (Ql HO_13.out)) k_ hk)); (case aO => exact (Ql HO_19.out)); (case aS => exact Q4); (case aL => have := LMc54.out; omega); intro v129 w55 ho hb hg hat; rw [← Ny128.out] at ho; have n0_ := ba_.mk (Kd.rl_ (ok := (fun _ => True)) (by (with_reducible repeat (first | apply Kd.eb_ | apply Kd.fb_ | apply Kd.rb_)); exact Kd.rd_ HO_13.out (fun _ hk => ⟨trivial, hk⟩)) hg hat); have n1_ := ba_.mk (Kd.tm_ (ok := (fun k_ => some k_ ≠ (.slice (some ad127) x13_2.length co31 : Value).ownBlock)) (Xu HO_17.out) hg hat); have n2_ := ba_.mk (hb); have n3_ := ba_.mk (ho); clear HO_13; clear HO_17; clear HB; clear HO_19; have HO_13 := n0_; have HO_17 := n1_; have HB := n2_; have HO130 := n3_; clear n0_ n1_ n2_ n3_; clear ho hb hg hat))
           go_roundg k4
           case measure => have := HK1.out; have := HK2.out; have := HK3.out; have := HK4.out; omega
           case rel => exact ⟨(y128), (wrap64 (x20_4 + 1)), Qi, H', ⟨by have := HK1.out; have := HK2.out; have := HK3.out; have := HK4.out; omega⟩, ⟨by (try simp only [hl13_2]); (with_reducible repeat (first | apply Kd.eb_ | apply Kd.fb_ | apply Kd.rb_)); exact Kd.rd_ HO_13.out (fun _ hk => hk.2)⟩, ⟨by (try simp only [hl13_2]); (with_reducible repeat (first | apply Kd.nf_ | apply Kd.of_ | apply Kd.rg_)); exact HO_17.out⟩, ⟨by (try simp only [hl13_2]); (with_reducible repeat (first | apply Kd.eb_ | apply Kd.fb_ | apply Kd.rb_)); exact HO130.out⟩, ⟨Qe⟩⟩
          rw [if_neg c50] at H
          have c50b0 := decide_eq_false c50
          clear c50
          obtain ⟨ji56, hji56⟩ : ∃ j_ : Int, (wrap64 (x108_3 + a2)) = j_ := ⟨_, rfl⟩
          replace H : (if 0 ≤ (ji56) then (if (ji56) < (x13_2.length : Int) then (if x19_4.length < 17592186044416 then (if x17_3.length < 5864062014805 then (ga_.l4 k4 l0 a2 x13_2 (x17_3 ++ [(x19_4 ++ [rd x13_2 (ji56)])]) (wrap64 ((x13_2.length : Int) - a2)) (wrap64 (x108_3 + 1))) else (none)) else (none)) else (none)) else (none)) = some (r1, r2) := by first | (rw [hji56] at H; exact H) | (simp only [hji56] at H ⊢; exact H)
          have hji56w : (IntKind.i64.wrap (x108_3 + a2)) = ji56 := (yb_ _).trans hji56
          by_cases c57 : 0 ≤ (ji56)
          rotate_left
          ·rw [if_neg c57] at H
           exact absurd H Qo
          rw [if_pos c57] at H
          have c57b0 := decide_eq_true c57
          clear c57
          by_cases c58 : (ji56) < (x13_2.length : Int)
          rotate_left
          ·rw [if_neg c58] at H
           exact absurd H Qo
          rw [if_pos c58] at H
          have c58b0 := decide_eq_true c58
          clear c58
          by_cases c59 : x19_4.length < 17592186044416
          rotate_left
          ·rw [if_neg c59] at H
           exact absurd H Qo
          rw [if_pos c59] at H
          have LMc59 := ba_.mk c59
          clear c59
          obtain ⟨y132, hy132⟩ : ∃ y_ : List Int, y_ = (x19_4 ++ [rd x13_2 (ji56)]) := ⟨_, rfl⟩
          replace H : (if x17_3.length < 5864062014805 then (ga_.l4 k4 l0 a2 x13_2 (x17_3 ++ [y132]) (wrap64 ((x13_2.length : Int) - a2)) (wrap64 (x108_3 + 1))) else (none)) = some (r1, r2) := by first | (rw [hy132]; with_reducible exact H) | (have H2_ := (Option.bind_some _ _).symm.trans H; rw [hy132]; with_reducible exact H2_) | (have H2_ := (Option.bind_some _ _).symm.trans H; with_reducible exact H2_) | with_reducible exact H | (rw [hy132]; exact H) | exact H
          have Ny132 := ba_.mk hy132
          clear hy132
          by_cases c60 : x17_3.length < 5864062014805
          rotate_left
          ·rw [if_neg c60] at H
           exact absurd H Qo
          rw [if_pos c60] at H
          have LMc60 := ba_.mk c60
          clear c60
          obtain ⟨y135, hy135⟩ : ∃ y_ : List (List Int), y_ = (x17_3 ++ [y132]) := ⟨_, rfl⟩
          replace H : (ga_.l4 k4 l0 a2 x13_2 y135 (wrap64 ((x13_2.length : Int) - a2)) (wrap64 (x108_3 + 1))) = some (r1, r2) := by first | (rw [hy135]; with_reducible exact H) | (have H2_ := (Option.bind_some _ _).symm.trans H; rw [hy135]; with_reducible exact H2_) | (have H2_ := (Option.bind_some _ _).symm.trans H; with_reducible exact H2_) | with_reducible exact H | (rw [hy135]; exact H) | exact H
          have Ny135 := ba_.mk hy135
          clear hy135
          have H' := ba_.mk H
          clear H
          have p131 : 0 ≤ ((ji56) : Int) := of_decide_eq_true Qg
          have q131 : (ji56) < (x13_2.length : Int) := of_decide_eq_true Qg
          obtain ⟨ad131, e131, hx131_0⟩ := Kd.sd_ (Kd.cc_ HO_13.out).2.2 (ji56) p131 q131
          cases e131
          replace p131 := eq_true p131
          replace q131 := eq_true q131
          go_wp2_with (first | ((with_reducible refine xd_ (b := .append) (xs := #[.tmp 128, .tmp 135]) rfl ?_); at_builtin; refine Kd.qf_ (Kd.int .i64) (w0 := w) w.heap.size rfl (.tmp 128) (.tmp 135) 124 87 (.int .i64 0) 8 rfl Tryz.underlying124 mn_ rfl Qh Qa u19 x19_4 (rd x13_2 (ji56)) [.int .i64 (rd x13_2 (ji56))] (fun k_ => some k_ ≠ (.slice (some ad131) x13_2.length co31 : Value).ownBlock) (fun _ => False) rfl rfl ?aP (fun _ hk => hk.elim) ?aF ?aO ?aB ?aS ?aL ?_; (case aP => exact rfl); (case aB => exact Q3); (case aF => exact (fun k_ hk => Kd.fresh' (Kd.R_lt (Ql HO_13.out)) k_ hk)); (case aO => exact (Ql HO_19.out)); (case aS => exact Q4); (case aL => have := LMc59.out; omega); intro v133 w61 ho hb hg hat; rw [← Ny132.out] at ho; have n0_ := ba_.mk (Kd.rl_ (ok := (fun _ => True)) (by (with_reducible repeat (first | apply Kd.eb_ | apply Kd.fb_ | apply Kd.rb_)); exact Kd.rd_ HO_13.out (fun _ hk => ⟨trivial, hk⟩)) hg hat); have n1_ := ba_.mk (Kd.tm_ (ok := (fun k_ => some k_ ≠ (.slice (some ad131) x13_2.length co31 : Value).ownBlock)) (Xu HO_17.out) hg hat); have n2_ := ba_.mk (hb); have n3_ := ba_.mk (ho); clear HO_13; clear HO_17; clear HB; clear HO_19; have HO_13 := n0_; have HO_17 := n1_; have HB := n2_; have HO134 := n3_; clear n0_ n1_ n2_ n3_; clear ho hb hg hat; obtain ⟨Ao63, co63, eo63⟩ := Kd.pd_ HO134.out; subst eo63) | ((with_reducible refine xd_ (b := .append) (xs := #[.tmp 127, .tmp 137]) rfl ?_); at_builtin; refine Kd.yr_ (Kd.slice 87 (Kd.int .i64)) (w0 := w) w.heap.size rfl (.tmp 127) (.tmp 137) 123 124 (.slice none 0 0) 24 rfl Tryz.underlying123 zv_ rfl Qh Qa u17 x17_3 y132 [.slice Ao63 y132.length co63] (fun k_ => some k_ ≠ (.slice (some ad131) x13_2.length co31 : Value).ownBlock) (fun k_ => some k_ = (.slice Ao63 y132.length co63 : Value).ownBlock) rfl rfl ?aP (fun k_ hk_ => ((Kd.rd_ (ok' := fun k_ => ((fun k_ => some k_ ≠ (.slice (some ad131) x13_2.length co31 : Value).ownBlock)) k_ ∧ some k_ ≠ (u17 : Value).ownBlock) (Kd.al_ (HO134.out) (Kd.lk_ HO_17.out) Qh) (fun k_ hk => ⟨hk.1, hk.2⟩))).1 k_ hk_.symm) ?aF ?aO ?aB ?aS ?aL ?_; (case aP => exact Kd.bg1_ (Kd.rd_ (Kd.xr_ rfl (Kd.rd_ (ok' := fun k_ => ((fun k_ => some k_ ≠ (.slice (some ad131) x13_2.length co31 : Value).ownBlock)) k_ ∧ some k_ ≠ (u17 : Value).ownBlock) (Kd.al_ (HO134.out) (Kd.lk_ HO_17.out) Qh) (fun k_ hk => ⟨hk.1, hk.2⟩))) (fun _ h_ => h_))); (case aB => exact Q3); (case aF => exact (fun k_ hk => Kd.fresh' (Kd.R_lt (Ql HO_13.out)) k_ hk)); (case aO => exact (by (with_reducible repeat (first | apply Kd.nf_ | apply Kd.of_ | apply Kd.rg_)); exact Kd.ol_ HO_17.out (fun k_ hk => ⟨hk.1, fun e_ => hk.2 e_⟩))); (case aS => exact Q4); (case aL => have := LMc60.out; omega); intro v136 w62 ho hb hg hat; rw [← Ny135.out] at ho; have n0_ := ba_.mk (Kd.wr_ (Ql HO_13.out) (Kd.lk_ (Xu HO_17.out)) Qh hg); have n1_ := ba_.mk (hb); have n2_ := ba_.mk (ho); clear HO_13; clear HB; clear HO_17; clear HO134; have HO_13 := n0_; have HB := n1_; have HO137 := n2_; clear n0_ n1_ n2_; clear ho hb hg hat))
          go_roundg k4
          case measure => have := HK1.out; have := HK2.out; have := HK3.out; have := HK4.out; omega
          case rel => exact ⟨(y135), (wrap64 (x108_3 + 1)), Qi, H', ⟨by have := HK1.out; have := HK2.out; have := HK3.out; have := HK4.out; omega⟩, ⟨by (try simp only [hl13_2]); (with_reducible repeat (first | apply Kd.eb_ | apply Kd.fb_ | apply Kd.rb_)); exact Kd.rd_ HO_13.out (fun _ hk => trivial)⟩, ⟨by (try simp only [hl13_2]); (with_reducible repeat (first | apply Kd.nf_ | apply Kd.of_ | apply Kd.rg_)); exact HO137.out⟩, ⟨Qe⟩⟩
       rw [if_neg c49] at H
       have c49b0 := decide_eq_false c49
       clear c49
       obtain ⟨⟨t138, t139⟩, A64, H⟩ := Qk H
       try dsimp only at H
       by_cases c65 : t139 = true
       rotate_left
       ·replace c65 := Bool.eq_false_iff.mpr c65
        subst c65
        have H1 : (some (([] : List Int), false)) = some (r1, r2) := by rw [if_neg (show ¬ (false = true) by decide)] at H; exact H
        clear H
        have H := H1
        clear H1
        simp only [Option.some.injEq, Prod.mk.injEq] at H
        obtain ⟨rfl, rfl⟩ := H
        obtain ⟨Ao83, co83, eo83⟩ := Kd.qo_ HO_17.out
        subst eo83
        go_wp2_with (first | ((with_reducible refine ia_ (f := 96) rfl ?_); refine gc_ (some 142) rfl rfl Tryz.func96 Qb rfl #[.slice Ao83 x17_3.length co83] rfl Qj ?_; (refine (xh_.calls w.heap.size _ _ _ x17_3 t138 false _ HO_17.out (za_ HB.out) A64.out).mono ?_); rintro e w84 ⟨v140, rfl, ho0, hb⟩; refine ⟨_, rfl, ?_⟩; have n2_ := ba_.mk (Kd.td_ (Kd.hf_ ho0 (Kd.R_lt (Ql HO_13.out))) (za_ Qe)); have n3_ := ba_.mk (HB.out.trans hb); clear HB; have HO141 := n2_; have HB := n3_; clear n2_ n3_; (try clear hb); (try clear hb2); (try clear hk); (try clear hi); (try clear ho0)))
        go_ret2
        exact ⟨_, by first | rfl | (simp [ta_, ua_] <;> rfl) | (simp only [← hji25]; first | rfl | (simp [ta_, ua_] <;> rfl)) | (simp [*, ta_, ua_] <;> rfl), Q5, Qe⟩
       subst c65
       have H1 : (ga_.l6 k3 l0 a2 t138 ([] : List Int) l0 (l0.length : Int) 0) = some (r1, r2) := by rw [if_pos rfl] at H; exact H
       clear H
       have H := H1
       clear H1
       have H' := ba_.mk H
       clear H
       obtain ⟨Ao66, co66, eo66⟩ := Kd.qo_ HO_17.out
       subst eo66
       go_wp2_with (first | ((with_reducible refine ia_ (f := 96) rfl ?_); refine gc_ (some 142) rfl rfl Tryz.func96 Qb rfl #[.slice Ao66 x17_3.length co66] rfl Qj ?_; (refine (xh_.calls w.heap.size _ _ _ x17_3 t138 true _ HO_17.out (za_ HB.out) A64.out).mono ?_); rintro e w67 ⟨v140, rfl, ho0, hb⟩; refine ⟨_, rfl, ?_⟩; have n2_ := ba_.mk (Kd.td_ (Kd.hf_ ho0 (Kd.R_lt (Ql HO_13.out))) (za_ Qe)); have n3_ := ba_.mk (HB.out.trans hb); clear HB; have HO141 := n2_; have HB := n3_; clear n2_ n3_; (try clear hb); (try clear hb2); (try clear hk); (try clear hi); (try clear ho0)))
       go_loopg [23, 149] k3 (fun kq v23 v149 w' => ∃ (x23_4 : List Int) (x149_4 : Int), v149 = .int .i64 x149_4 ∧ ba_ (ga_.l6 kq l0 a2 t138 x23_4 l0 (l0.length : Int) x149_4 = some (r1, r2)) ∧ ba_ (kq ≤ k3) ∧ ba_ (Kd.R (Kd.int .i64) 87 w' w.heap.size (fun _ => True) v140 t138) ∧ ba_ (Kd.R (Kd.int .i64) 3 w' w.heap.size (fun _ => True) v23 x23_4) ∧ ba_ (Below w.heap.size w w'))
       case atStart => exact ⟨(([] : List Int)), (0), Qi, H', ⟨Nat.le_refl _⟩, ⟨by (try simp only [hl13_2]); (with_reducible repeat (first | apply Kd.eb_ | apply Kd.fb_ | apply Kd.rb_)); exact Kd.rd_ HO141.out (fun _ hk => trivial)⟩, ⟨by (try simp only [hl13_2]); first | exact Kd.yf_ _ _ _ _ _ | exact Kd.mh_ _ _ _ _ _ | exact Kd.ph_ _ _ _ _ _ | exact Kd.nh_ _ _ _ _ _ | exact Kd.oh_ _ _ _ _ _⟩, ⟨Qe⟩⟩
       case round =>
        clear H'
        try clear c1
        try clear p1
        try clear q1
        try clear hx1
        try clear c2
        try clear p2
        try clear q2
        try clear hx2
        try clear c3
        try clear c4
        try clear p4
        try clear q4
        try clear hx4
        try clear hf4
        try clear c5
        try clear c6
        try clear c6b0
        try clear p6
        try clear c7
        try clear c7b0
        try clear c8
        try clear c8b0
        try clear c9
        try clear p10
        try clear q10
        try clear hx10
        try clear c11
        try clear p11
        try clear q11
        try clear hx11
        try clear c12
        try clear c12b0
        try clear p12
        try clear q12
        try clear hx12
        try clear c13
        try clear c13b0
        try clear p13
        try clear q13
        try clear hx13
        try clear c14
        try clear c14b0
        try clear c16
        try clear c16b0
        try clear c17
        try clear c17b0
        try clear p21
        try clear q21
        try clear hx21
        try clear hf21
        try clear c26
        try clear c26b0
        try clear c26b1
        try clear c27
        try clear c27b0
        try clear c27b1
        try clear c32
        try clear c32b0
        try clear c34
        try clear c34b0
        try clear c35
        try clear c35b0
        try clear c36
        try clear c36b0
        try clear c37
        try clear c37b0
        try clear c38
        try clear c38b0
        try clear c40
        try clear c40b0
        try clear c41
        try clear c41b0
        try clear p44
        try clear q44
        try clear hx44
        try clear hf44
        try clear c45
        try clear c48
        try clear c48b0
        try clear c48b1
        try clear c49
        try clear c49b0
        try clear c50
        try clear c50b0
        try clear c52
        try clear c52b0
        try clear c53
        try clear c53b0
        try clear c54
        try clear c57
        try clear c57b0
        try clear c58
        try clear c58b0
        try clear c59
        try clear c60
        try clear p64
        try clear c65
        try clear hx105_0
        try clear hx109_0
        try clear hx110_0
        try clear hx121_0
        try clear hx122_0
        try clear hx123_0
        try clear hx127_0
        try clear hx131_0
        try clear hx21_0
        try clear hx44_0
        try clear p1
        try clear p10
        try clear p105
        try clear p109
        try clear p11
        try clear p110
        try clear p12
        try clear p121
        try clear p122
        try clear p123
        try clear p127
        try clear p131
        try clear p2
        try clear p21
        try clear p4
        try clear p44
        try clear p6
        try clear q1
        try clear q10
        try clear q105
        try clear q109
        try clear q11
        try clear q110
        try clear q12
        try clear q121
        try clear q122
        try clear q123
        try clear q127
        try clear q131
        try clear q2
        try clear q21
        try clear q4
        try clear q44
        obtain ⟨x23_4, x149_4, rfl, HA, HK4, HO_21, HO_23, HB⟩ := hrel
        cases gk with
        | zero => exact absurd HA.out (by simp [ga_.l6])
        | succ k4 =>
         have H := HA.out
         clear HA
         simp only [ga_.l6] at H
         by_cases c68 : x149_4 < (l0.length : Int)
         rotate_left
         ·rw [if_neg c68] at H
          have c68b0 := decide_eq_false c68
          clear c68
          simp only [Option.some.injEq, Prod.mk.injEq] at H
          obtain ⟨rfl, rfl⟩ := H
          obtain ⟨Ao82, co82, eo82⟩ := Kd.pd_ HO_23.out
          subst eo82
          go_wp2
          go_ret2
          exact ⟨_, by first | rfl | (simp [ta_, ua_] <;> rfl) | (simp only [← hji25]; first | rfl | (simp [ta_, ua_] <;> rfl)) | (simp [*, ta_, ua_] <;> rfl), by (with_reducible repeat (first | apply Kd.eb_ | apply Kd.fb_ | apply Kd.rb_)); exact HO_23.out, Qe⟩
         rw [if_pos c68] at H
         have c68b0 := decide_eq_true c68
         clear c68
         by_cases c69 : 0 ≤ x149_4
         rotate_left
         ·rw [if_neg c69] at H
          exact absurd H Qo
         rw [if_pos c69] at H
         have c69b0 := decide_eq_true c69
         clear c69
         by_cases c70 : x149_4 < (l0.length : Int)
         rotate_left
         ·rw [if_neg c70] at H
          exact absurd H Qo
         rw [if_pos c70] at H
         have c70b0 := decide_eq_true c70
         clear c70
         have H' := ba_.mk H
         clear H
         have p142 : 0 ≤ (x149_4 : Int) := of_decide_eq_true Qg
         have q142 : x149_4 < (l0.length : Int) := of_decide_eq_true Qg
         obtain ⟨ad142, e142, hx142_0⟩ := Kd.sd_ HR0.out x149_4 p142 q142
         cases e142
         replace hx142_0 := (HB.out.cell (World.block_lt_of_cell? w _ hx142_0)).trans hx142_0
         replace p142 := eq_true p142
         replace q142 := eq_true q142
         obtain ⟨Ao71, co71, eo71⟩ := Kd.pd_ HO_21.out
         subst eo71
         go_wp2
         go_loopg [26, 156] k4 (fun kq v26 v156 w' => ∃ (x26_5 : Int) (x156_5 : Int), v26 = .int .i64 x26_5 ∧ v156 = .int .i64 x156_5 ∧ ba_ (ga_.l7 kq l0 a2 t138 x23_4 x149_4 (rd l0 x149_4) x26_5 l0 (l0.length : Int) x149_4 t138 (t138.length : Int) x156_5 = some (r1, r2)) ∧ ba_ (kq ≤ k4) ∧ ba_ (Kd.R (Kd.int .i64) 87 w' w.heap.size (fun _ => True) (.slice Ao71 t138.length co71) t138) ∧ ba_ (Kd.R (Kd.int .i64) 3 w' w.heap.size (fun _ => True) u23 x23_4) ∧ ba_ (Kd.R (Kd.int .i64) 87 w' w.heap.size (fun _ => True) (.slice Ao71 t138.length co71) t138) ∧ ba_ (Below w.heap.size w w'))
         case atStart => exact ⟨(1), (0), Qi, Qi, H', ⟨Nat.le_refl _⟩, ⟨X0⟩, ⟨Yh⟩, ⟨X0⟩, ⟨Qe⟩⟩
         case round =>
          clear H'
          try clear c1
          try clear p1
          try clear q1
          try clear hx1
          try clear c2
          try clear p2
          try clear q2
          try clear hx2
          try clear c3
          try clear c4
          try clear p4
          try clear q4
          try clear hx4
          try clear hf4
          try clear c5
          try clear c6
          try clear c6b0
          try clear p6
          try clear c7
          try clear c7b0
          try clear c8
          try clear c8b0
          try clear c9
          try clear p10
          try clear q10
          try clear hx10
          try clear c11
          try clear p11
          try clear q11
          try clear hx11
          try clear c12
          try clear c12b0
          try clear p12
          try clear q12
          try clear hx12
          try clear c13
          try clear c13b0
          try clear p13
          try clear q13
          try clear hx13
          try clear c14
          try clear c14b0
          try clear p14
          try clear q14
          try clear hx14
          try clear c16
          try clear c16b0
          try clear c17
          try clear c17b0
          try clear p21
          try clear q21
          try clear hx21
          try clear hf21
          try clear c26
          try clear c26b0
          try clear c26b1
          try clear c27
          try clear c27b0
          try clear c27b1
          try clear c32
          try clear c32b0
          try clear c34
          try clear c34b0
          try clear c35
          try clear c35b0
          try clear c36
          try clear c36b0
          try clear c37
          try clear c37b0
          try clear c38
          try clear c38b0
          try clear c40
          try clear c40b0
          try clear c41
          try clear c41b0
          try clear p44
          try clear q44
          try clear hx44
          try clear hf44
          try clear c45
          try clear c48
          try clear c48b0
          try clear c48b1
          try clear c49
          try clear c49b0
          try clear c50
          try clear c50b0
          try clear c52
          try clear c52b0
          try clear c53
          try clear c53b0
          try clear c54
          try clear c57
          try clear c57b0
          try clear c58
          try clear c58b0
          try clear c59
          try clear c60
          try clear p64
          try clear c65
          try clear c68
          try clear c68b0
          try clear c69
          try clear c69b0
          try clear c70
          try clear c70b0
          try clear hx105_0
          try clear hx109_0
          try clear hx110_0
          try clear hx121_0
          try clear hx122_0
          try clear hx123_0
          try clear hx127_0
          try clear hx131_0
          try clear hx142_0
          try clear hx21_0
          try clear hx44_0
          try clear p1
          try clear p10
          try clear p105
          try clear p109
          try clear p11
          try clear p110
          try clear p12
          try clear p121
          try clear p122
          try clear p123
          try clear p127
          try clear p13
          try clear p131
          try clear p142
          try clear p2
          try clear p21
          try clear p4
          try clear p44
          try clear p6
          try clear p64
          try clear q1
          try clear q10
          try clear q105
          try clear q109
          try clear q11
          try clear q110
          try clear q12
          try clear q121
          try clear q122
          try clear q123
          try clear q127
          try clear q13
          try clear q131
          try clear q142
          try clear q2
          try clear q21
          try clear q4
          try clear q44
          obtain ⟨x26_5, x156_5, rfl, rfl, HA, HK5, HO_21, HO_23, HO_154, HB⟩ := hrel
          cases gk with
          | zero => exact absurd HA.out (by simp [ga_.l7])
          | succ k5 =>
           have H := HA.out
           clear HA
           simp only [ga_.l7] at H
           by_cases c72 : x156_5 < (t138.length : Int)
           ·rw [if_pos c72] at H
            have c72b0 := decide_eq_true c72
            clear c72
            by_cases c73 : 0 ≤ x156_5
            rotate_left
            ·rw [if_neg c73] at H
             exact absurd H Qo
            rw [if_pos c73] at H
            have c73b0 := decide_eq_true c73
            clear c73
            by_cases c74 : x156_5 < (t138.length : Int)
            rotate_left
            ·rw [if_neg c74] at H
             exact absurd H Qo
            rw [if_pos c74] at H
            have c74b0 := decide_eq_true c74
            clear c74
            obtain ⟨t144, A75, H⟩ := Qk H
            try dsimp only at H
            obtain ⟨t145, A76, H⟩ := Qk H
            try dsimp only at H
            obtain ⟨t146, A77, H⟩ := Qk H
            try dsimp only at H
            have H' := ba_.mk H
            clear H
            have p143 : 0 ≤ (x156_5 : Int) := of_decide_eq_true Qg
            have q143 : x156_5 < (t138.length : Int) := of_decide_eq_true Qg
            obtain ⟨ad143, e143, hx143_0⟩ := Kd.sd_ (Kd.cc_ HO_154.out).2.2 x156_5 p143 q143
            cases e143
            replace p143 := eq_true p143
            replace q143 := eq_true q143
            go_wp2_with (first | ((with_reducible refine ia_ (f := 95) rfl ?_); refine gc_ (some 168) rfl rfl Tryz.func95 Qb rfl #[.slice (some ad142) l0.length c0, .int .i64 x149_4, .int .i64 (wrap64 ((wrap64 (-x156_5)) - 1))] rfl Qj ?_; (with_reducible refine (g_at.calls _ _ l0 x149_4 (wrap64 ((wrap64 (-x156_5)) - 1)) t144 _ ?side1 ?side2 A75.out).mono ?_); (case side1 => exact Q9); (case side2 => exact HC0.out); rintro e w' ⟨rfl, ⟨nd, rfl⟩⟩; refine ⟨_, rfl, ?_⟩) | ((with_reducible refine ia_ (f := 116) rfl ?_); refine gc_ (some 169) rfl rfl Tryz.func116 Qb rfl #[.int .i64 (rd t138 x156_5), .int .i64 t144] rfl Qj ?_; (with_reducible refine (ig_.calls (rd t138 x156_5) t144 t145 _ A76.out).mono ?_); rintro e w' ⟨rfl, ⟨nd, rfl⟩⟩; refine ⟨_, rfl, ?_⟩) | ((with_reducible refine ia_ (f := 115) rfl ?_); refine gc_ (some 170) rfl rfl Tryz.func115 Qb rfl #[.int .i64 x26_5, .int .i64 t145] rfl Qj ?_; (with_reducible refine (fh_.calls x26_5 t145 t146 _ A77.out).mono ?_); rintro e w' ⟨rfl, ⟨nd, rfl⟩⟩; refine ⟨_, rfl, ?_⟩))
            go_roundg k5
            case measure => exact Yd
            case rel => exact ⟨(t146), (wrap64 (x156_5 + 1)), Qi, Qi, H', ⟨Yi⟩, ⟨X0⟩, ⟨Yh⟩, ⟨by (try simp only [hl13_2]); (with_reducible repeat (first | apply Kd.eb_ | apply Kd.fb_ | apply Kd.rb_)); exact HO_154.out⟩, ⟨Qe⟩⟩
           rw [if_neg c72] at H
           have c72b0 := decide_eq_false c72
           clear c72
           by_cases c78 : (rd l0 x149_4) = (-1)
           ·rw [if_pos c78] at H
            have c78b0 : ((rd l0 x149_4) == (-1)) = true := beq_iff_eq.mpr c78
            have c78b1 : ((rd l0 x149_4) != (-1)) = false := bne_eq_false_iff_eq.mpr c78
            clear c78
            have H' := ba_.mk H
            clear H
            go_wp2
            go_roundg k5
            case measure => exact Yd
            case rel => exact ⟨(x23_4), (wrap64 (x149_4 + 1)), Qi, H', ⟨Yi⟩, ⟨X0⟩, ⟨Yh⟩, ⟨Qe⟩⟩
           rw [if_neg c78] at H
           have c78b0 : ((rd l0 x149_4) == (-1)) = false := beq_eq_false_iff_ne.mpr c78
           have c78b1 : ((rd l0 x149_4) != (-1)) = true := bne_iff_ne.mpr c78
           by_cases c79 : x26_5 = 0
           rotate_left
           ·rw [if_neg c79] at H
            have c79b0 : (x26_5 == 0) = false := beq_eq_false_iff_ne.mpr c79
            have c79b1 : (x26_5 != 0) = true := bne_iff_ne.mpr c79
            have H' := ba_.mk H
            clear H
            go_wp2
            go_roundg k5
            case measure => exact Yd
            case rel => exact ⟨(x23_4), (wrap64 (x149_4 + 1)), Qi, H', ⟨Yi⟩, ⟨X0⟩, ⟨Yh⟩, ⟨Qe⟩⟩
           rw [if_pos c79] at H
           have c79b0 : (x26_5 == 0) = true := beq_iff_eq.mpr c79
           have c79b1 : (x26_5 != 0) = false := bne_eq_false_iff_eq.mpr c79
           clear c79
           by_cases c80 : x23_4.length < 17592186044416
           rotate_left
           ·rw [if_neg c80] at H
            exact absurd H Qo
           rw [if_pos c80] at H
           have LMc80 := ba_.mk c80
           clear c80
           obtain ⟨y147, hy147⟩ : ∃ y_ : List Int, y_ = (x23_4 ++ [x149_4]) := ⟨_, rfl⟩
           replace H : (ga_.l6 k5 l0 a2 t138 y147 l0 (l0.length : Int) (wrap64 (x149_4 + 1))) = some (r1, r2) := by first | (rw [hy147]; with_reducible exact H) | (have H2_ := (Option.bind_some _ _).symm.trans H; rw [hy147]; with_reducible exact H2_) | (have H2_ := (Option.bind_some _ _).symm.trans H; with_reducible exact H2_) | with_reducible exact H | (rw [hy147]; exact H) | exact H
           have Ny147 := ba_.mk hy147
           clear hy147
           have H' := ba_.mk H
           clear H
           go_wp2_with (first | ((with_reducible refine xd_ (b := .append) (xs := #[.tmp 178, .tmp 180]) rfl ?_); at_builtin; refine Kd.qf_ (Kd.int .i64) (w0 := w) w.heap.size rfl (.tmp 178) (.tmp 180) 22 3 (.int .i64 0) 8 rfl Tryz.underlying22 gi_ rfl Qh Qa u23 x23_4 x149_4 [.int .i64 x149_4] (fun _ => True) (fun _ => False) rfl rfl ?aP (fun _ hk => hk.elim) ?aF ?aO ?aB ?aS ?aL ?_; (case aP => exact rfl); (case aB => exact Q3); (case aF => exact Xc); (case aO => exact (Ql HO_23.out)); (case aS => exact Q4); (case aL => have := LMc80.out; omega); intro v148 w81 ho hb hg hat; rw [← Ny147.out] at ho; have n0_ := ba_.mk (Kd.wr_ (Ql HO_21.out) (Kd.iv_ (Ql HO_23.out)) Qh hg); have n1_ := ba_.mk (Kd.wr_ (Ql HO_154.out) (Kd.iv_ (Ql HO_23.out)) Qh hg); have n2_ := ba_.mk (hb); have n3_ := ba_.mk (ho); clear HO_21; clear HO_154; clear HB; clear HO_23; have HO_21 := n0_; have HO_154 := n1_; have HB := n2_; have HO149 := n3_; clear n0_ n1_ n2_ n3_; clear ho hb hg hat))
           go_roundg k5
           case measure => exact Yd
           case rel => exact ⟨(y147), (wrap64 (x149_4 + 1)), Qi, H', ⟨Yi⟩, ⟨X0⟩, ⟨by (try simp only [hl13_2]); (with_reducible repeat (first | apply Kd.eb_ | apply Kd.fb_ | apply Kd.rb_)); exact HO149.out⟩, ⟨Qe⟩⟩
end Go.Proofs.YtpkhgapifnjbeaaGreatDoor.L
end
section
namespace Go.Proofs.YtpkhgapifnjbeaaGreatDoor.L
open RowKit G Zw.PrintWords Zw.PrintLast Zw.PrintMore
attribute [local go_sem] id_ kd_ vd_ wd_ bd_ cd_ jd_ ld_
end Go.Proofs.YtpkhgapifnjbeaaGreatDoor.L
end
section
namespace Go.Proofs.YtpkhgapifnjbeaaGreatDoor.R
open RowKit G Rs Zw.PrintWords Zw.PrintLast Zw.PrintMore
attribute [local go_sem] id_ kd_ vd_ wd_ bd_ cd_ jd_ ld_
def errW : Option Int → Value
 | none => .nilIface
 | some c => .iface 0 (.int .i64 c)
theorem ta_ : errW none = .nilIface := rfl
theorem ua_ (c : Int) : errW (some c) = .iface 0 (.int .i64 c) := rfl
theorem gi_ : (Tryz.prog.info? 3).map (fun i => (i.zero, i.size, i.bytes)) = some (some (.int .i64 0), 1, 8) := by kernel_rfl
theorem info22 : (Tryz.prog.info? 22).map (fun i => (i.zero, i.size, i.bytes)) = some (some (.slice none 0 0), 1, 24) := by kernel_rfl
def sf_ (xs : List (List Int)) (i : Int) : (List Int) := xs.getD i.toNat ([] : List Int)
theorem dt_ {w : World} {A : Option Addr} {n : Nat} {xs : List (List Int)} (h : Kd.C (Kd.slice 3 (Kd.int .i64)) w A n xs) (i : Int) (h0 : 0 ≤ i) (h1 : i < n) : ∃ ad A0 c0, A = some ad ∧ w.cell? (ad.add i.toNat) = some (.slice A0 (sf_ xs i).length c0) ∧ (sf_ xs i).length ≤ c0 ∧ (Kd.int .i64).C w A0 (sf_ xs i).length (sf_ xs i) := by
 obtain ⟨ad, c, e, _, hK, hc0⟩ := Kd.oi_ h ([] : List Int) i h0 h1
 have hc : ∀ j u, c[j]? = some u → w.cell? (ad.add (i.toNat * 1 + j)) = some u := hc0
 obtain ⟨A0, c0, rfl, l0, g0⟩ := hK
 exact ⟨ad, A0, c0, e, Q0, l0, g0⟩
def lm_ (xs : List (List (List Int))) (i : Int) : (List (List Int)) := xs.getD i.toNat ([] : List (List Int))
theorem at_L2 {w : World} {A : Option Addr} {n : Nat} {xs : List (List (List Int))} (h : Kd.C (Kd.slice 22 (Kd.slice 3 (Kd.int .i64))) w A n xs) (i : Int) (h0 : 0 ≤ i) (h1 : i < n) : ∃ ad A0 c0, A = some ad ∧ w.cell? (ad.add i.toNat) = some (.slice A0 (lm_ xs i).length c0) ∧ (lm_ xs i).length ≤ c0 ∧ (Kd.slice 3 (Kd.int .i64)).C w A0 (lm_ xs i).length (lm_ xs i) := by
 obtain ⟨ad, c, e, _, hK, hc0⟩ := Kd.oi_ h ([] : List (List Int)) i h0 h1
 have hc : ∀ j u, c[j]? = some u → w.cell? (ad.add (i.toNat * 1 + j)) = some u := hc0
 obtain ⟨A0, c0, rfl, l0, g0⟩ := hK
 exact ⟨ad, A0, c0, e, Q0, l0, g0⟩
end Go.Proofs.YtpkhgapifnjbeaaGreatDoor.R
end
section
namespace Go.Proofs.YtpkhgapifnjbeaaGreatDoor.R
open RowKit G Rs Zw.PrintWords Zw.PrintLast Zw.PrintMore
attribute [local go_sem] id_ kd_ vd_ wd_ bd_ cd_ jd_ ld_
def ve_.f (a0 : Int) (a1 : Int) : Option (Int × Int) := some (((IntKind.u64.wrap ((IntKind.u64.wrap (a0)) * (IntKind.u64.wrap (a1)))) / 4294967296) % 4294967296, (IntKind.u64.wrap ((IntKind.u64.wrap (a0)) * (IntKind.u64.wrap (a1)))) % 4294967296)
set_option maxHeartbeats 8000000 in
set_option maxRecDepth 100000 in
theorem ve_.calls (a0 : Int) (a1 : Int) (r1 : Int) (r2 : Int) (w : World) (h : ve_.f a0 a1 = some (r1, r2)) :
  Calls Tryz.prog 99 #[.int .u32 a0, .int .u32 a1] w fun e w' => e = .returned (.tuple #[.int .u32 r1, .int .u32 r2]) ∧ ja_ w w' := by
 have H : (some (((IntKind.u64.wrap ((IntKind.u64.wrap (a0)) * (IntKind.u64.wrap (a1)))) / 4294967296) % 4294967296, (IntKind.u64.wrap ((IntKind.u64.wrap (a0)) * (IntKind.u64.wrap (a1)))) % 4294967296)) = some (r1, r2) := h
 clear h
 simp only [Option.some.injEq, Prod.mk.injEq] at H
 obtain ⟨rfl, rfl⟩ := H
 go_enter Tryz.func99, Tryz.ntmps99
 go_wp2
 go_ret2
 exact ⟨Qi, Qp⟩
def qd_.f (a0 : Int) (a1 : Int) : Option (Int × Int) := some (IntKind.u64.wrap ((IntKind.u64.wrap ((IntKind.u64.wrap ((a0 / 4294967296) * (a1 / 4294967296))) + ((IntKind.u64.wrap ((IntKind.u64.wrap ((a0 / 4294967296) * (Go.bits .and .u64 a1 4294967295))) + ((IntKind.u64.wrap ((Go.bits .and .u64 a0 4294967295) * (Go.bits .and .u64 a1 4294967295))) / 4294967296))) / 4294967296))) + ((IntKind.u64.wrap ((Go.bits .and .u64 (IntKind.u64.wrap ((IntKind.u64.wrap ((a0 / 4294967296) * (Go.bits .and .u64 a1 4294967295))) + ((IntKind.u64.wrap ((Go.bits .and .u64 a0 4294967295) * (Go.bits .and .u64 a1 4294967295))) / 4294967296))) 4294967295) + (IntKind.u64.wrap ((Go.bits .and .u64 a0 4294967295) * (a1 / 4294967296))))) / 4294967296)), IntKind.u64.wrap (a0 * a1))
set_option maxHeartbeats 8000000 in
set_option maxRecDepth 100000 in
theorem qd_.calls (a0 : Int) (a1 : Int) (r1 : Int) (r2 : Int) (w : World) (h : qd_.f a0 a1 = some (r1, r2)) :
  Calls Tryz.prog 100 #[.int .u64 a0, .int .u64 a1] w fun e w' => e = .returned (.tuple #[.int .u64 r1, .int .u64 r2]) ∧ ja_ w w' := by
 have H : (some (IntKind.u64.wrap ((IntKind.u64.wrap ((IntKind.u64.wrap ((a0 / 4294967296) * (a1 / 4294967296))) + ((IntKind.u64.wrap ((IntKind.u64.wrap ((a0 / 4294967296) * (Go.bits .and .u64 a1 4294967295))) + ((IntKind.u64.wrap ((Go.bits .and .u64 a0 4294967295) * (Go.bits .and .u64 a1 4294967295))) / 4294967296))) / 4294967296))) + ((IntKind.u64.wrap ((Go.bits .and .u64 (IntKind.u64.wrap ((IntKind.u64.wrap ((a0 / 4294967296) * (Go.bits .and .u64 a1 4294967295))) + ((IntKind.u64.wrap ((Go.bits .and .u64 a0 4294967295) * (Go.bits .and .u64 a1 4294967295))) / 4294967296))) 4294967295) + (IntKind.u64.wrap ((Go.bits .and .u64 a0 4294967295) * (a1 / 4294967296))))) / 4294967296)), IntKind.u64.wrap (a0 * a1))) = some (r1, r2) := h
 clear h
 simp only [Option.some.injEq, Prod.mk.injEq] at H
 obtain ⟨rfl, rfl⟩ := H
 go_enter Tryz.func100, Tryz.ntmps100
 go_wp2
 go_ret2
 exact ⟨Qi, Qp⟩
def lf_.f (a0 : Int) (a1 : Int) : Option (Int × Int) := (qd_.f a0 a1).bind fun bt101 => (some (bt101.1, bt101.2))
set_option maxHeartbeats 8000000 in
set_option maxRecDepth 100000 in
theorem lf_.calls (a0 : Int) (a1 : Int) (r1 : Int) (r2 : Int) (w : World) (h : lf_.f a0 a1 = some (r1, r2)) :
  Calls Tryz.prog 71 #[.int .u64 a0, .int .u64 a1] w fun e w' => e = .returned (.tuple #[.int .u64 r1, .int .u64 r2]) ∧ ja_ w w' := by
 have H : ((qd_.f a0 a1).bind fun bt101 => (some (bt101.1, bt101.2))) = some (r1, r2) := h
 clear h
 obtain ⟨⟨t101, t102⟩, A3, H⟩ := Qk H
 try dsimp only at H
 simp only [Option.some.injEq, Prod.mk.injEq] at H
 obtain ⟨rfl, rfl⟩ := H
 go_enter Tryz.func71, Tryz.ntmps71
 go_wp2_with (first | ((with_reducible refine ia_ (f := 100) rfl ?_); refine gc_ (some 25) rfl rfl Tryz.func100 Qb rfl #[.int .u64 a0, .int .u64 a1] rfl Qj ?_; (with_reducible refine (qd_.calls a0 a1 t101 t102 _ A3.out).mono ?_); rintro e w' ⟨rfl, ⟨nd, rfl⟩⟩; refine ⟨_, rfl, ?_⟩))
 go_ret2
 exact ⟨Qi, Qp⟩
def dc_.f (a0 : Int) : Option (Bool) := if a0 ≥ 0 then (some (decide (a0 < 32))) else (some false)
set_option maxHeartbeats 8000000 in
set_option maxRecDepth 100000 in
theorem dc_.calls (a0 : Int) (r : Bool) (w : World) (h : dc_.f a0 = some r) :
  Calls Tryz.prog 84 #[.int .i64 a0] w fun e w' => e = .returned (.bool r) ∧ ja_ w w' := by
 have H : (if a0 ≥ 0 then (some (decide (a0 < 32))) else (some false)) = some r := h
 clear h
 by_cases c2 : a0 ≥ 0
 ·exact X8
 ·exact X9
mutual
def fa_.j0 : Nat → List Int → Int → Bool → Option (Bool)
 | 0, _, _, _ => none
 | k + 1, x0, x1, x13 => if x13 = true then (some false) else (fa_.l0 k x0 x1 0)
def fa_.l0 : Nat → List Int → Int → Int → Option (Bool)
 | 0, _, _, _ => none
 | k + 1, x0, x1, x5 => if x5 < (x0.length : Int) then (if 0 ≤ x5 then (if (rd x0 x5) < x1 then (some false) else (if (rd x0 x5) > 31 then (some false) else (fa_.l0 k x0 x1 (wrap64 (x5 + 1))))) else (none)) else (some true)
end
def fa_.f (k : Nat) (l0 : List Int) (a1 : Int) : Option (Bool) := if (l0.length : Int) < 7 then (fa_.j0 k l0 a1 true) else (fa_.j0 k l0 a1 (decide ((l0.length : Int) > 15)))
theorem fa_.yc_ : ∀ k, (∀ y0 y1 y2, LeO (fa_.j0 k y0 y1 y2) (fa_.j0 (k + 1) y0 y1 y2)) ∧ (∀ y0 y1 y2, LeO (fa_.l0 k y0 y1 y2) (fa_.l0 (k + 1) y0 y1 y2))
 | 0 => ⟨fun _ _ _ r h => by simp [fa_.j0] at h, fun _ _ _ r h => by simp [fa_.l0] at h⟩
 | k + 1 => by
  obtain ⟨ih0, ih1⟩ := fa_.yc_ k
  refine ⟨?_, ?_⟩
  ·intro y0 y1 y2
   unfold fa_.j0
   repeat' first
   | (with_reducible exact ih0 _ _ _)
   | (with_reducible exact ih1 _ _ _)
   | (with_reducible first | exact LeO.refl _ | exact LeO.none _ | refine LeO.ite ?_ ?_ | refine LeO.bind ?_ (fun _ => ?_))
   | exact ih0 _ _ _
   | exact ih1 _ _ _
   | exact LeO.none _
   | refine LeO.ite ?_ ?_
   | refine LeO.bind ?_ (fun _ => ?_)
  intro y0 y1 y2
  unfold fa_.l0
  repeat' first
  | (with_reducible exact ih0 _ _ _)
  | (with_reducible exact ih1 _ _ _)
  | (with_reducible first | exact LeO.refl _ | exact LeO.none _ | refine LeO.ite ?_ ?_ | refine LeO.bind ?_ (fun _ => ?_))
  | exact ih0 _ _ _
  | exact ih1 _ _ _
  | exact LeO.none _
  | refine LeO.ite ?_ ?_
  | refine LeO.bind ?_ (fun _ => ?_)
theorem fa_.mono : ∀ a0 a1 k, LeO (fa_.f k a0 a1) (fa_.f (k + 1) a0 a1) := by
 intro a0 a1 k
 obtain ⟨ih0, ih1⟩ := fa_.yc_ k
 unfold fa_.f
 repeat' first
   | (with_reducible exact ih0 _ _ _)
   | (with_reducible exact ih1 _ _ _)
   | (with_reducible first | exact LeO.refl _ | exact LeO.none _ | refine LeO.ite ?_ ?_ | refine LeO.bind ?_ (fun _ => ?_))
   | exact ih0 _ _ _
   | exact ih1 _ _ _
   | exact LeO.none _
   | refine LeO.ite ?_ ?_
   | refine LeO.bind ?_ (fun _ => ?_)
set_option maxHeartbeats 8000000 in
set_option maxRecDepth 100000 in
theorem fa_.calls (k : Nat) (A0 : Option Addr) (c0 : Nat) (l0 : List Int) (a1 : Int) (r : Bool) (w : World) (hr0 : Kd.C (Kd.int .i64) w A0 l0.length l0) (hc0 : l0.length ≤ c0) (h : fa_.f k l0 a1 = some r) :
  Calls Tryz.prog 87 #[.slice A0 l0.length c0, .int .i64 a1] w fun e w' => e = .returned (.bool r) ∧ ja_ w w' := by
 have HR0 := ba_.mk hr0
 have HC0 := ba_.mk hc0
 clear hr0 hc0
 have H : (if (l0.length : Int) < 7 then (fa_.j0 k l0 a1 true) else (fa_.j0 k l0 a1 (decide ((l0.length : Int) > 15)))) = some r := h
 clear h
 have HC3 := ba_.mk H
 clear H
 go_enter Tryz.func87, Tryz.ntmps87
 go_upto_region 1 with (fail)
 go_cut [13] (fun v13 wc => ∃ (kq : Nat) (x13_2 : Bool), v13 = .bool x13_2 ∧ ba_ (fa_.j0 kq l0 a1 x13_2 = some r) ∧ ba_ (kq ≤ k) ∧ ja_ w wc)
 case first =>
  have H := HC3.out
  clear HC3
  by_cases c4 : (l0.length : Int) < 7
  ·rw [if_pos c4] at H
   have c4b0 := decide_eq_true c4
   have c4b1 : decide (l0.length < 7) = true := decide_eq_true Qa
   clear c4
   (first | rw [c4b0] | (simp only [yb_, ac_]; rw [c4b0]) | skip)
   have H' := ba_.mk H
   clear H
   go_wp2
   go_meet
   case rel => exact Xt
  rw [if_neg c4] at H
  have c4b0 := decide_eq_false c4
  have c4b1 : decide (l0.length < 7) = false := decide_eq_false Qa
  clear c4
  (first | rw [c4b0] | (simp only [yb_, ac_]; rw [c4b0]) | skip)
  have H' := ba_.mk H
  clear H
  go_wp2
  go_meet
  case rel => exact ⟨_, (decide ((l0.length : Int) > 15)), Qi, H', ⟨Xf⟩, Qp⟩
 case rest =>
  clear HC3
  try clear p2
  try clear c4
  try clear c4b0
  try clear c4b1
  obtain ⟨kq, x13_2, rfl, HA, HJ2, ⟨mc2, rfl⟩⟩ := hcut
  cases kq with
  | zero => exact absurd HA.out (by simp [fa_.j0])
  | succ kj2 =>
   have H := HA.out
   clear HA
   simp only [fa_.j0] at H
   by_cases c5 : x13_2 = true
   ·subst c5
    have H1 : (some false) = some r := by rw [if_pos rfl] at H; exact H
    clear H
    have H := H1
    clear H1
    obtain rfl := Option.some.inj H
    go_wp2
    go_ret
    exact ⟨Qi, Qp⟩
   replace c5 := Bool.eq_false_iff.mpr c5
   subst c5
   have H1 : (fa_.l0 kj2 l0 a1 0) = some r := by rw [if_neg (show ¬ (false = true) by decide)] at H; exact H
   clear H
   have H := H1
   clear H1
   have H' := ba_.mk H
   clear H
   go_wp2
   go_loopg [5] kj2 (fun kq v5 w' => ∃ (x5_2 : Int), v5 = .int .i64 x5_2 ∧ ba_ (fa_.l0 kq l0 a1 x5_2 = some r) ∧ ba_ (kq ≤ kj2) ∧ ja_ w w')
   case atStart => exact Yb
   case round =>
    clear H'
    try clear c2
    try clear p2
    try clear c4
    try clear c4b0
    try clear c4b1
    try clear c5
    try clear p2
    obtain ⟨x5_2, rfl, HA, HK2, ⟨m2, rfl⟩⟩ := hrel
    cases gk with
    | zero => exact absurd HA.out (by simp [fa_.l0])
    | succ k2 =>
     have H := HA.out
     clear HA
     simp only [fa_.l0] at H
     by_cases c6 : x5_2 < (l0.length : Int)
     rotate_left
     ·rw [if_neg c6] at H
      have c6b0 := decide_eq_false c6
      clear c6
      obtain rfl := Option.some.inj H
      go_wp2
      go_ret
      exact ⟨Qi, Qp⟩
     rw [if_pos c6] at H
     have c6b0 := decide_eq_true c6
     clear c6
     obtain ⟨c7, H⟩ := Qn H
     have c7b0 := decide_eq_true c7
     clear c7
     by_cases c8 : (rd l0 x5_2) < a1
     ·rw [if_pos c8] at H
      have c8b0 := decide_eq_true c8
      clear c8
      obtain rfl := Option.some.inj H
      have p103 : 0 ≤ (x5_2 : Int) := of_decide_eq_true Qg
      have q103 : x5_2 < (l0.length : Int) := of_decide_eq_true Qg
      obtain ⟨ad103, e103, hx103_0⟩ := Kd.sd_ HR0.out x5_2 p103 q103
      cases e103
      replace p103 := eq_true p103
      replace q103 := eq_true q103
      go_wp2
      go_ret
      exact ⟨Qi, Qp⟩
     rw [if_neg c8] at H
     have c8b0 := decide_eq_false c8
     clear c8
     by_cases c9 : (rd l0 x5_2) > 31
     ·rw [if_pos c9] at H
      have c9b0 : decide (31 < (rd l0 x5_2)) = true := decide_eq_true c9
      clear c9
      obtain rfl := Option.some.inj H
      have p103 : 0 ≤ (x5_2 : Int) := of_decide_eq_true Qg
      have q103 : x5_2 < (l0.length : Int) := of_decide_eq_true Qg
      obtain ⟨ad103, e103, hx103_0⟩ := Kd.sd_ HR0.out x5_2 p103 q103
      cases e103
      replace p103 := eq_true p103
      replace q103 := eq_true q103
      have p104 : 0 ≤ (x5_2 : Int) := of_decide_eq_true Qg
      have q104 : x5_2 < (l0.length : Int) := of_decide_eq_true Qg
      obtain ⟨ad104, e104, hx104_0⟩ := Kd.sd_ HR0.out x5_2 p104 q104
      obtain rfl : ad103 = ad104 := (by injection e104)
      replace p104 := eq_true p104
      replace q104 := eq_true q104
      go_wp2
      go_ret
      exact ⟨Qi, Qp⟩
     rw [if_neg c9] at H
     have c9b0 : decide (31 < (rd l0 x5_2)) = false := decide_eq_false c9
     clear c9
     have H' := ba_.mk H
     clear H
     have p103 : 0 ≤ (x5_2 : Int) := of_decide_eq_true Qg
     have q103 : x5_2 < (l0.length : Int) := of_decide_eq_true Qg
     obtain ⟨ad103, e103, hx103_0⟩ := Kd.sd_ HR0.out x5_2 p103 q103
     cases e103
     replace p103 := eq_true p103
     replace q103 := eq_true q103
     have p104 : 0 ≤ (x5_2 : Int) := of_decide_eq_true Qg
     have q104 : x5_2 < (l0.length : Int) := of_decide_eq_true Qg
     obtain ⟨ad104, e104, hx104_0⟩ := Kd.sd_ HR0.out x5_2 p104 q104
     obtain rfl : ad103 = ad104 := (by injection e104)
     replace p104 := eq_true p104
     replace q104 := eq_true q104
     go_wp2
     go_roundg k2
     case measure => exact X6
     case rel => exact ⟨(wrap64 (x5_2 + 1)), Qi, H', ⟨X7⟩, Qp⟩
mutual
def ra_.l0 : Nat → List Int → Int → List Int → Int → Option (List Int × Bool)
 | 0, _, _, _, _ => none
 | k + 1, x1, x6, x7, x8 => if x8 < (x1.length : Int) then (if 0 ≤ x8 then (if 0 ≤ (rd x1 x8) then (if (rd x1 x8) < (x7.length : Int) then (ra_.l0 k x1 x6 (x7.set ((rd x1 x8) : Int).toNat 0) (wrap64 (x8 + 1))) else (none)) else (none)) else (none)) else (ra_.l1 k x1 x6 x7 ([] : List (List Int)) 1)
def ra_.l1 : Nat → List Int → Int → List Int → List (List Int) → Int → Option (List Int × Bool)
 | 0, _, _, _, _, _ => none
 | k + 1, x1, x6, x7, x9, x10 => if x10 ≤ 6 then (ra_.l2 k x1 x6 x7 x9 x10 ([] : List Int) 0) else ((ei_.f x7 x9 x1).bind fun bt110 => (some (bt110.1, bt110.2)))
def ra_.l2 : Nat → List Int → Int → List Int → List (List Int) → Int → List Int → Int → Option (List Int × Bool)
 | 0, _, _, _, _, _, _, _ => none
 | k + 1, x1, x6, x7, x9, x10, x11, x12 => if x12 < (x1.length : Int) then (if 0 ≤ x12 then ((cj_.f (wrap64 (x10 * (wrap64 ((wrap64 (x6 - 1)) - (rd x1 x12)))))).bind fun t115 => (if x11.length < 17592186044416 then (ra_.l2 k x1 x6 x7 x9 x10 (x11 ++ [t115]) (wrap64 (x12 + 1))) else (none))) else (none)) else ((iw_.f x7 x10).bind fun t119 => (if x11.length < 17592186044416 then (if x9.length < 5864062014805 then (ra_.l1 k x1 x6 x7 (x9 ++ [(x11 ++ [t119])]) (wrap64 (x10 + 1))) else (none)) else (none)))
end
def ra_.f (k : Nat) (l0 : List Int) (l1 : List Int) : Option (List Int × Bool) := (wh_.f l0).bind fun t105 => (ra_.l0 k l1 (l0.length : Int) t105 0)
theorem ra_.yc_ : ∀ k, (∀ y0 y1 y2 y3, LeO (ra_.l0 k y0 y1 y2 y3) (ra_.l0 (k + 1) y0 y1 y2 y3)) ∧ (∀ y0 y1 y2 y3 y4, LeO (ra_.l1 k y0 y1 y2 y3 y4) (ra_.l1 (k + 1) y0 y1 y2 y3 y4)) ∧ (∀ y0 y1 y2 y3 y4 y5 y6, LeO (ra_.l2 k y0 y1 y2 y3 y4 y5 y6) (ra_.l2 (k + 1) y0 y1 y2 y3 y4 y5 y6))
 | 0 => ⟨fun _ _ _ _ r h => by simp [ra_.l0] at h, fun _ _ _ _ _ r h => by simp [ra_.l1] at h, fun _ _ _ _ _ _ _ r h => by simp [ra_.l2] at h⟩
 | k + 1 => by
  obtain ⟨ih0, ih1, ih2⟩ := ra_.yc_ k
  refine ⟨?_, ?_, ?_⟩
  ·intro y0 y1 y2 y3
   unfold ra_.l0
   repeat' first
   | (with_reducible exact ih0 _ _ _ _)
   | (with_reducible exact ih1 _ _ _ _ _)
   | (with_reducible exact ih2 _ _ _ _ _ _ _)
   | (with_reducible first | exact LeO.refl _ | exact LeO.none _ | refine LeO.ite ?_ ?_ | refine LeO.bind ?_ (fun _ => ?_))
   | exact ih0 _ _ _ _
   | exact ih1 _ _ _ _ _
   | exact ih2 _ _ _ _ _ _ _
   | exact LeO.none _
   | refine LeO.ite ?_ ?_
   | refine LeO.bind ?_ (fun _ => ?_)
  ·intro y0 y1 y2 y3 y4
   unfold ra_.l1
   repeat' first
   | (with_reducible exact ih0 _ _ _ _)
   | (with_reducible exact ih1 _ _ _ _ _)
   | (with_reducible exact ih2 _ _ _ _ _ _ _)
   | (with_reducible first | exact LeO.refl _ | exact LeO.none _ | refine LeO.ite ?_ ?_ | refine LeO.bind ?_ (fun _ => ?_))
   | exact ih0 _ _ _ _
   | exact ih1 _ _ _ _ _
   | exact ih2 _ _ _ _ _ _ _
   | exact LeO.none _
   | refine LeO.ite ?_ ?_
   | refine LeO.bind ?_ (fun _ => ?_)
  intro y0 y1 y2 y3 y4 y5 y6
  unfold ra_.l2
  repeat' first
  | (with_reducible exact ih0 _ _ _ _)
  | (with_reducible exact ih1 _ _ _ _ _)
  | (with_reducible exact ih2 _ _ _ _ _ _ _)
  | (with_reducible first | exact LeO.refl _ | exact LeO.none _ | refine LeO.ite ?_ ?_ | refine LeO.bind ?_ (fun _ => ?_))
  | exact ih0 _ _ _ _
  | exact ih1 _ _ _ _ _
  | exact ih2 _ _ _ _ _ _ _
  | exact LeO.none _
  | refine LeO.ite ?_ ?_
  | refine LeO.bind ?_ (fun _ => ?_)
theorem ra_.mono : ∀ a0 a1 k, LeO (ra_.f k a0 a1) (ra_.f (k + 1) a0 a1) := by
 intro a0 a1 k
 obtain ⟨ih0, ih1, ih2⟩ := ra_.yc_ k
 unfold ra_.f
 repeat' first
   | (with_reducible exact ih0 _ _ _ _)
   | (with_reducible exact ih1 _ _ _ _ _)
   | (with_reducible exact ih2 _ _ _ _ _ _ _)
   | (with_reducible first | exact LeO.refl _ | exact LeO.none _ | refine LeO.ite ?_ ?_ | refine LeO.bind ?_ (fun _ => ?_))
   | exact ih0 _ _ _ _
   | exact ih1 _ _ _ _ _
   | exact ih2 _ _ _ _ _ _ _
   | exact LeO.none _
   | refine LeO.ite ?_ ?_
   | refine LeO.bind ?_ (fun _ => ?_)
set_option maxHeartbeats 8000000 in
set_option maxRecDepth 100000 in
theorem ra_.calls (k : Nat) (A0 : Option Addr) (c0 : Nat) (l0 : List Int) (A1 : Option Addr) (c1 : Nat) (l1 : List Int) (r1 : List Int) (r2 : Bool) (w : World) (hr0 : Kd.C (Kd.int .i64) w A0 l0.length l0) (hc0 : l0.length ≤ c0) (hr1 : Kd.C (Kd.int .i64) w A1 l1.length l1) (hc1 : l1.length ≤ c1) (h : ra_.f k l0 l1 = some (r1, r2)) :
  Calls Tryz.prog 85 #[.slice A0 l0.length c0, .slice A1 l1.length c1] w fun e w' => ∃ v0_ : Value, e = .returned (.tuple #[v0_, .bool r2]) ∧ Kd.R (Kd.int .i64) 3 w' w.heap.size (fun _ => True) v0_ r1 ∧ Below w.heap.size w w' := by
 have HR0 := ba_.mk hr0
 have HC0 := ba_.mk hc0
 clear hr0 hc0
 have HR1 := ba_.mk hr1
 have HC1 := ba_.mk hc1
 clear hr1 hc1
 have HB := ba_.mk (Below.refl w.heap.size w)
 have H : ((wh_.f l0).bind fun t105 => (ra_.l0 k l1 (l0.length : Int) t105 0)) = some (r1, r2) := h
 clear h
 obtain ⟨t105, A3, H⟩ := Qk H
 try dsimp only at H
 have H' := ba_.mk H
 clear H
 go_enter Tryz.func85, Tryz.ntmps85
 have CF := ba_.mk (uo_ A3.out)
 go_wp2_with (first | ((with_reducible refine md_ (N := 25) rfl ?_); refine Kd.oo_ (Kd.int .i64) w.heap.size 3 rfl (N := 25) rfl 22 _ _ rfl (l0.length : Int) rfl rfl Tryz.underlying22 (.int .i64 0) 8 Qb rfl Qh Qa 0 (ok := fun _ => True) (okp := fun _ => True) rfl (fun _ hk => hk) trivial Qa (by have := CF.out.2; omega) HB.out (Nat.le_refl _) ?_; intro v119 w2 ho0 hb hg_ hnew_; clear hg_ hnew_; clear HB; have HB := ba_.mk hb; rw [Int.toNat_natCast] at ho0; have HO106 := ba_.mk ho0; clear ho0 hb) | ((with_reducible refine md_ (N := 28) rfl ?_); refine Kd.jf1_ (0 : Int) w.heap.size rfl _ _ 22 22 3 rfl Tryz.underlying22 Qb v119 _ l0 A0 l0.length c0 (fun _ => True) rfl rfl HO106.out (Kd.oe_ HR0.out HB.out) HB.out (za_ HB.out) ?_; intro w3 ho0 hb hg_; clear hg_; clear HB HO106; have HB := ba_.mk hb; rw [md1_ l0 l0.length rfl] at ho0; have HO107 := ba_.mk (show Kd.R (Kd.int .i64) 3 w3 w.heap.size (fun _ => True) v119 t105 from by rw [CF.out.1]; exact ho0); clear ho0 hb; obtain ⟨Ao5, co5, eo5⟩ := Kd.pd_ HO107.out; subst eo5))
 go_loopg [8] k (fun kq v8 w' => ∃ (x7_1 : List Int) (x8_1 : Int), v8 = .int .i64 x8_1 ∧ ba_ (ra_.l0 kq l1 (l0.length : Int) x7_1 x8_1 = some (r1, r2)) ∧ ba_ (kq ≤ k) ∧ ba_ (Kd.R (Kd.int .i64) 3 w' w.heap.size (fun _ => True) (.slice Ao5 t105.length co5) x7_1) ∧ ba_ (Below w.heap.size w w'))
 case atStart => exact ⟨(t105), (0), Qi, H', ⟨Nat.le_refl _⟩, ⟨by (with_reducible repeat (first | apply Kd.eb_ | apply Kd.fb_ | apply Kd.rb_)); exact HO107.out⟩, ⟨Qe⟩⟩
 case round =>
  clear H'
  try clear c1
  try clear p2
  obtain ⟨x7_1, x8_1, rfl, HA, HK1, HO_7, HB⟩ := hrel
  have hl7_1 := (Kd.cc_ HO_7.out).1
  rw [hl7_1] at HO_7
  (try simp only [hl7_1])
  cases gk with
  | zero => exact absurd HA.out (by simp [ra_.l0])
  | succ k1 =>
   have H := HA.out
   clear HA
   simp only [ra_.l0] at H
   by_cases c6 : x8_1 < (l1.length : Int)
   ·rw [if_pos c6] at H
    have c6b0 := decide_eq_true c6
    clear c6
    obtain ⟨c7, H⟩ := Qn H
    have c7b0 := decide_eq_true c7
    clear c7
    obtain ⟨c8, H⟩ := Qn H
    have c8b0 := decide_eq_true c8
    clear c8
    obtain ⟨c9, H⟩ := Qn H
    have c9b0 := decide_eq_true c9
    clear c9
    obtain ⟨y109, hy109⟩ : ∃ y_ : List Int, y_ = (x7_1.set ((rd l1 x8_1) : Int).toNat 0) := ⟨_, rfl⟩
    replace H : (ra_.l0 k1 l1 (l0.length : Int) y109 (wrap64 (x8_1 + 1))) = some (r1, r2) := by first | (rw [hy109]; with_reducible exact H) | (have H2_ := (Option.bind_some _ _).symm.trans H; rw [hy109]; with_reducible exact H2_) | (have H2_ := (Option.bind_some _ _).symm.trans H; with_reducible exact H2_) | with_reducible exact H | (rw [hy109]; exact H) | exact H
    have Ny109 := ba_.mk hy109
    clear hy109
    have H' := ba_.mk H
    clear H
    have p108 : 0 ≤ (x8_1 : Int) := of_decide_eq_true Qg
    have q108 : x8_1 < (l1.length : Int) := of_decide_eq_true Qg
    obtain ⟨ad108, e108, hx108_0⟩ := Kd.sd_ HR1.out x8_1 p108 q108
    cases e108
    replace hx108_0 := (HB.out.cell (World.block_lt_of_cell? w _ hx108_0)).trans hx108_0
    replace p108 := eq_true p108
    replace q108 := eq_true q108
    have p10 : 0 ≤ ((rd l1 x8_1) : Int) := of_decide_eq_true Qg
    have q10 : ((rd l1 x8_1) : Int) < ((x7_1.length : Int) : Int) := of_decide_eq_true Qg
    obtain ⟨go10, co10, eo10, gb10, gl10, cl10, HG10⟩ := Kd.mi_ HO_7.out Qa
    (first | cases eo10 | (injection eo10 with ea_ en_ ec_; (first | subst ea_ | (injection ea_ with ea_; subst ea_)); subst ec_; clear en_))
    have GB10 := ba_.mk gb10
    have GG10 := ba_.mk HG10
    clear gb10 gl10 HG10
    obtain ⟨hx10_0, hf10_0⟩ := Kd.sg_ 0 HO_7.out ((rd l1 x8_1) : Int) p10 q10
    replace p10 := eq_true p10
    replace q10 := eq_true q10
    have HP11 := Kd.da1_ HO_7.out ((rd l1 x8_1) : Int) 0
    go_wp2_with (first | ((with_reducible refine an_ (t := 3) (p := 40) rfl ?_); refine yl_ (t := 3) (p := 40) (v := ?vo_w12) (w1 := (wr.setCell ⟨go10, ((rd l1 x8_1) : Int).toNat, none⟩ (.int .i64 0))) ?hg ?ho ?hn ?hr ?_; (case ho => rfl); (case hg => rfl); (case hn => rfl); (case hr => exact Qt); intro w12 hw; have hg : wr.grownBy w12 (some go10) := (by rw [hw]; exact HP11.2); have hp_ : Kd.R (Kd.int .i64) 3 w12 w.heap.size (fun _ => True) (.slice (some ⟨go10, 0, none⟩) x7_1.length co5) y109 := (by rw [hw, Ny109.out]; exact HP11.1); clear HP11; have n0_ := ba_.mk (hp_); have n1_ := ba_.mk ((by rw [hw]; exact sa_ (HB.out) GB10.out : Below w.heap.size w w12)); clear HO_7; clear HB; have HO_7 := n0_; have HB := n1_; clear n0_ n1_; clear hg hw hp_))
    (try simp only [← hl7_1])
    go_roundg k1
    case measure => have := HK1.out; omega
    case rel => exact ⟨(y109), (wrap64 (x8_1 + 1)), Qi, H', ⟨Qw⟩, ⟨by (try simp only [hl7_1]); (with_reducible repeat (first | apply Kd.eb_ | apply Kd.fb_ | apply Kd.rb_)); exact HO_7.out⟩, ⟨Qe⟩⟩
   rw [if_neg c6] at H
   have c6b0 := decide_eq_false c6
   clear c6
   have H' := ba_.mk H
   clear H
   go_wp2
   go_loopg [9, 10] k1 (fun kq v9 v10 w' => ∃ (x9_2 : List (List Int)) (x10_2 : Int), v10 = .int .i64 x10_2 ∧ ba_ (ra_.l1 kq l1 (l0.length : Int) x7_1 x9_2 x10_2 = some (r1, r2)) ∧ ba_ (kq ≤ k1) ∧ ba_ (Kd.R (Kd.int .i64) 3 w' w.heap.size (fun _ => True) (.slice Ao5 x7_1.length co5) x7_1) ∧ ba_ (Kd.S (Kd.slice 3 (Kd.int .i64)) 22 w' w.heap.size (fun k_ => some k_ ≠ ((.slice Ao5 x7_1.length co5) : Value).ownBlock) v9 x9_2) ∧ ba_ (Below w.heap.size w w'))
   case atStart => exact ⟨(([] : List (List Int))), (1), Qi, H', ⟨Nat.le_refl _⟩, ⟨by (try simp only [hl7_1]); (with_reducible repeat (first | apply Kd.eb_ | apply Kd.fb_ | apply Kd.rb_)); exact HO_7.out⟩, ⟨by (try simp only [hl7_1]); first | exact Kd.oh_ _ _ _ _ _ | exact Kd.mh_ _ _ _ _ _ | exact Kd.ph_ _ _ _ _ _ | exact Kd.nh_ _ _ _ _ _ | exact Kd.yf_ _ _ _ _ _⟩, ⟨Qe⟩⟩
   case round =>
    clear H'
    try clear c1
    try clear p1
    try clear q1
    try clear hx1
    try clear p2
    try clear c6
    try clear c6b0
    try clear p6
    try clear c7
    try clear c7b0
    try clear c8
    try clear c8b0
    try clear c9
    try clear c9b0
    try clear p10
    try clear q10
    try clear hx10
    try clear hf10
    try clear hx108_0
    try clear hx10_0
    try clear p10
    try clear p108
    try clear p2
    try clear q10
    try clear q108
    obtain ⟨x9_2, x10_2, rfl, HA, HK2, HO_7, HO_9, HB⟩ := hrel
    cases gk with
    | zero => exact absurd HA.out (by simp [ra_.l1])
    | succ k2 =>
     have H := HA.out
     clear HA
     simp only [ra_.l1] at H
     by_cases c13 : x10_2 ≤ 6
     ·rw [if_pos c13] at H
      have c13b0 := decide_eq_true c13
      clear c13
      have H' := ba_.mk H
      clear H
      go_wp2
      go_loopg [11, 12] k2 (fun kq v11 v12 w' => ∃ (x11_3 : List Int) (x12_3 : Int), v12 = .int .i64 x12_3 ∧ ba_ (ra_.l2 kq l1 (l0.length : Int) x7_1 x9_2 x10_2 x11_3 x12_3 = some (r1, r2)) ∧ ba_ (kq ≤ k2) ∧ ba_ (Kd.R (Kd.int .i64) 3 w' w.heap.size (fun k_ => some k_ ≠ (v11 : Value).ownBlock) (.slice Ao5 x7_1.length co5) x7_1) ∧ ba_ (Kd.S (Kd.slice 3 (Kd.int .i64)) 22 w' w.heap.size (fun k_ => some k_ ≠ ((.slice Ao5 x7_1.length co5) : Value).ownBlock ∧ some k_ ≠ (v11 : Value).ownBlock) u9 x9_2) ∧ ba_ (Kd.R (Kd.int .i64) 3 w' w.heap.size (fun k_ => some k_ ≠ ((.slice Ao5 x7_1.length co5) : Value).ownBlock) v11 x11_3) ∧ ba_ (Below w.heap.size w w'))
      case atStart => exact ⟨(([] : List Int)), (0), Qi, H', ⟨Nat.le_refl _⟩, ⟨by (try simp only [hl7_1]); (with_reducible repeat (first | apply Kd.eb_ | apply Kd.fb_ | apply Kd.rb_)); exact Kd.rd_ HO_7.out (fun _ hk => Xe)⟩, ⟨by (try simp only [hl7_1]); (with_reducible repeat (first | apply Kd.nf_ | apply Kd.of_ | apply Kd.rg_)); exact Kd.ol_ HO_9.out (fun _ hk => ⟨hk, Xe⟩)⟩, ⟨by (try simp only [hl7_1]); first | exact Kd.yf_ _ _ _ _ _ | exact Kd.mh_ _ _ _ _ _ | exact Kd.ph_ _ _ _ _ _ | exact Kd.nh_ _ _ _ _ _ | exact Kd.oh_ _ _ _ _ _⟩, ⟨Qe⟩⟩
      case round =>
       clear H'
       try clear c1
       try clear p1
       try clear q1
       try clear hx1
       try clear p2
       try clear c6
       try clear c6b0
       try clear p6
       try clear c7
       try clear c7b0
       try clear c8
       try clear c8b0
       try clear c9
       try clear c9b0
       try clear p10
       try clear q10
       try clear hx10
       try clear hf10
       try clear c13
       try clear c13b0
       try clear hx108_0
       try clear hx10_0
       try clear p1
       try clear p10
       try clear p108
       try clear p2
       try clear p6
       try clear q1
       try clear q10
       try clear q108
       obtain ⟨x11_3, x12_3, rfl, HA, HK3, HO_7, HO_9, HO_11, HB⟩ := hrel
       cases gk with
       | zero => exact absurd HA.out (by simp [ra_.l2])
       | succ k3 =>
        have H := HA.out
        clear HA
        simp only [ra_.l2] at H
        by_cases c14 : x12_3 < (l1.length : Int)
        rotate_left
        ·rw [if_neg c14] at H
         have c14b0 := decide_eq_false c14
         clear c14
         obtain ⟨t119, A20, H⟩ := Qk H
         try dsimp only at H
         obtain ⟨c21, H⟩ := Qn H
         have LMc21 := ba_.mk c21
         clear c21
         obtain ⟨y120, hy120⟩ : ∃ y_ : List Int, y_ = (x11_3 ++ [t119]) := ⟨_, rfl⟩
         replace H : (if x9_2.length < 5864062014805 then (ra_.l1 k3 l1 (l0.length : Int) x7_1 (x9_2 ++ [y120]) (wrap64 (x10_2 + 1))) else (none)) = some (r1, r2) := by first | (rw [hy120]; with_reducible exact H) | (have H2_ := (Option.bind_some _ _).symm.trans H; rw [hy120]; with_reducible exact H2_) | (have H2_ := (Option.bind_some _ _).symm.trans H; with_reducible exact H2_) | with_reducible exact H | (rw [hy120]; exact H) | exact H
         have Ny120 := ba_.mk hy120
         clear hy120
         by_cases c22 : x9_2.length < 5864062014805
         rotate_left
         ·rw [if_neg c22] at H
          exact absurd H Qo
         rw [if_pos c22] at H
         have LMc22 := ba_.mk c22
         clear c22
         obtain ⟨y123, hy123⟩ : ∃ y_ : List (List Int), y_ = (x9_2 ++ [y120]) := ⟨_, rfl⟩
         replace H : (ra_.l1 k3 l1 (l0.length : Int) x7_1 y123 (wrap64 (x10_2 + 1))) = some (r1, r2) := by first | (rw [hy123]; with_reducible exact H) | (have H2_ := (Option.bind_some _ _).symm.trans H; rw [hy123]; with_reducible exact H2_) | (have H2_ := (Option.bind_some _ _).symm.trans H; with_reducible exact H2_) | with_reducible exact H | (rw [hy123]; exact H) | exact H
         have Ny123 := ba_.mk hy123
         clear hy123
         have H' := ba_.mk H
         clear H
         go_wp2_with (first | ((with_reducible refine ia_ (f := 118) rfl ?_); refine gc_ (some 68) rfl rfl Tryz.func118 Qb rfl #[.slice Ao5 x7_1.length co5, .int .i64 x10_2] rfl Qj ?_; (with_reducible refine (iw_.calls _ _ x7_1 x10_2 t119 _ ?side1 ?side2 A20.out).mono ?_); (case side1 => repeat (first | exact (Kd.cc_ HO_7.out).2.2 | (with_reducible refine Kd.gd_ ?_ _) | (with_reducible refine Kd.hd_ ?_ _) | (with_reducible refine Kd.yd_ ?_))); (case side2 => exact (Kd.cc_ HO_7.out).2.1); rintro e w23 ⟨rfl, hb⟩; refine ⟨_, rfl, ?_⟩; have n0_ := ba_.mk (Kd.ne_ (Ql HO_7.out) hb); have n1_ := ba_.mk (Kd.po_ (Xu HO_9.out) hb); have n2_ := ba_.mk (Kd.ne_ (Ql HO_11.out) hb); have n3_ := ba_.mk (wa_ Qe hb); clear HO_7; clear HO_9; clear HO_11; clear HB; have HO_7 := n0_; have HO_9 := n1_; have HO_11 := n2_; have HB := n3_; clear n0_ n1_ n2_ n3_; (try clear hb); (try clear hb2); (try clear hk); (try clear hi)) | ((with_reducible refine xd_ (b := .append) (xs := #[.tmp 65, .tmp 69]) rfl ?_); at_builtin; refine Kd.qf_ (Kd.int .i64) (w0 := w) w.heap.size rfl (.tmp 65) (.tmp 69) 22 3 (.int .i64 0) 8 rfl Tryz.underlying22 gi_ rfl Qh Qa u11 x11_3 t119 [.int .i64 t119] (fun k_ => some k_ ≠ (.slice Ao5 x7_1.length co5 : Value).ownBlock) (fun _ => False) rfl rfl ?aP (fun _ hk => hk.elim) ?aF ?aO ?aB ?aS ?aL ?_; (case aP => exact rfl); (case aB => exact Q3); (case aF => exact (fun k_ hk => Kd.fresh' (Kd.R_lt (Ql HO_7.out)) k_ hk)); (case aO => exact (Ql HO_11.out)); (case aS => exact Q4); (case aL => have := LMc21.out; omega); intro v121 w24 ho hb hg hat; rw [← Ny120.out] at ho; have n0_ := ba_.mk (Kd.rl_ (ok := (fun _ => True)) (by (with_reducible repeat (first | apply Kd.eb_ | apply Kd.fb_ | apply Kd.rb_)); exact Kd.rd_ HO_7.out (fun _ hk => ⟨trivial, hk⟩)) hg hat); have n1_ := ba_.mk (Kd.tm_ (ok := (fun k_ => some k_ ≠ (.slice Ao5 x7_1.length co5 : Value).ownBlock)) (Xu HO_9.out) hg hat); have n2_ := ba_.mk (hb); have n3_ := ba_.mk (ho); clear HO_7; clear HO_9; clear HB; clear HO_11; have HO_7 := n0_; have HO_9 := n1_; have HB := n2_; have HO122 := n3_; clear n0_ n1_ n2_ n3_; clear ho hb hg hat; obtain ⟨Ao26, co26, eo26⟩ := Kd.pd_ HO122.out; subst eo26) | ((with_reducible refine xd_ (b := .append) (xs := #[.tmp 64, .tmp 71]) rfl ?_); at_builtin; refine Kd.yr_ (Kd.slice 3 (Kd.int .i64)) (w0 := w) w.heap.size rfl (.tmp 64) (.tmp 71) 33 22 (.slice none 0 0) 24 rfl Tryz.underlying33 info22 rfl Qh Qa u9 x9_2 y120 [.slice Ao26 y120.length co26] (fun k_ => some k_ ≠ (.slice Ao5 x7_1.length co5 : Value).ownBlock) (fun k_ => some k_ = (.slice Ao26 y120.length co26 : Value).ownBlock) rfl rfl ?aP (fun k_ hk_ => ((Kd.rd_ (ok' := fun k_ => ((fun k_ => some k_ ≠ (.slice Ao5 x7_1.length co5 : Value).ownBlock)) k_ ∧ some k_ ≠ (u9 : Value).ownBlock) (Kd.al_ (HO122.out) (Kd.lk_ HO_9.out) Qh) (fun k_ hk => ⟨hk.1, hk.2⟩))).1 k_ hk_.symm) ?aF ?aO ?aB ?aS ?aL ?_; (case aP => exact Kd.bg1_ (Kd.rd_ (Kd.xr_ rfl (Kd.rd_ (ok' := fun k_ => ((fun k_ => some k_ ≠ (.slice Ao5 x7_1.length co5 : Value).ownBlock)) k_ ∧ some k_ ≠ (u9 : Value).ownBlock) (Kd.al_ (HO122.out) (Kd.lk_ HO_9.out) Qh) (fun k_ hk => ⟨hk.1, hk.2⟩))) (fun _ h_ => h_))); (case aB => exact Q3); (case aF => exact (fun k_ hk => Kd.fresh' (Kd.R_lt (Ql HO_7.out)) k_ hk)); (case aO => exact (by (with_reducible repeat (first | apply Kd.nf_ | apply Kd.of_ | apply Kd.rg_)); exact Kd.ol_ HO_9.out (fun k_ hk => ⟨hk.1, fun e_ => hk.2 e_⟩))); (case aS => exact Q4); (case aL => have := LMc22.out; omega); intro v124 w25 ho hb hg hat; rw [← Ny123.out] at ho; have n0_ := ba_.mk (Kd.wr_ (Ql HO_7.out) (Kd.lk_ (Xu HO_9.out)) Qh hg); have n1_ := ba_.mk (hb); have n2_ := ba_.mk (ho); clear HO_7; clear HB; clear HO_9; clear HO122; have HO_7 := n0_; have HB := n1_; have HO125 := n2_; clear n0_ n1_ n2_; clear ho hb hg hat))
         go_roundg k3
         case measure => exact Yc
         case rel => exact ⟨(y123), (wrap64 (x10_2 + 1)), Qi, H', ⟨Yg⟩, ⟨by (try simp only [hl7_1]); (with_reducible repeat (first | apply Kd.eb_ | apply Kd.fb_ | apply Kd.rb_)); exact Kd.rd_ HO_7.out (fun _ hk => trivial)⟩, ⟨by (try simp only [hl7_1]); (with_reducible repeat (first | apply Kd.nf_ | apply Kd.of_ | apply Kd.rg_)); exact HO125.out⟩, ⟨Qe⟩⟩
        rw [if_pos c14] at H
        have c14b0 := decide_eq_true c14
        clear c14
        obtain ⟨c15, H⟩ := Qn H
        have c15b0 := decide_eq_true c15
        clear c15
        obtain ⟨t115, A16, H⟩ := Qk H
        try dsimp only at H
        obtain ⟨c17, H⟩ := Qn H
        have LMc17 := ba_.mk c17
        clear c17
        obtain ⟨y116, hy116⟩ : ∃ y_ : List Int, y_ = (x11_3 ++ [t115]) := ⟨_, rfl⟩
        replace H : (ra_.l2 k3 l1 (l0.length : Int) x7_1 x9_2 x10_2 y116 (wrap64 (x12_3 + 1))) = some (r1, r2) := by first | (rw [hy116]; with_reducible exact H) | (have H2_ := (Option.bind_some _ _).symm.trans H; rw [hy116]; with_reducible exact H2_) | (have H2_ := (Option.bind_some _ _).symm.trans H; with_reducible exact H2_) | with_reducible exact H | (rw [hy116]; exact H) | exact H
        have Ny116 := ba_.mk hy116
        clear hy116
        have H' := ba_.mk H
        clear H
        have p114 : 0 ≤ (x12_3 : Int) := of_decide_eq_true Qg
        have q114 : x12_3 < (l1.length : Int) := of_decide_eq_true Qg
        obtain ⟨ad114, e114, hx114_0⟩ := Kd.sd_ HR1.out x12_3 p114 q114
        cases e114
        replace hx114_0 := (HB.out.cell (World.block_lt_of_cell? w _ hx114_0)).trans hx114_0
        replace p114 := eq_true p114
        replace q114 := eq_true q114
        go_wp2_with (first | ((with_reducible refine ia_ (f := 117) rfl ?_); refine gc_ (some 61) rfl rfl Tryz.func117 Qb rfl #[.int .i64 (wrap64 (x10_2 * (wrap64 ((wrap64 ((l0.length : Int) - 1)) - (rd l1 x12_3)))))] rfl Qj ?_; (with_reducible refine (cj_.calls (wrap64 (x10_2 * (wrap64 ((wrap64 ((l0.length : Int) - 1)) - (rd l1 x12_3))))) t115 _ A16.out).mono ?_); rintro e w18 ⟨rfl, hb⟩; refine ⟨_, rfl, ?_⟩; have n0_ := ba_.mk (Kd.ne_ (Ql HO_7.out) hb); have n1_ := ba_.mk (Kd.po_ (Xu HO_9.out) hb); have n2_ := ba_.mk (Kd.ne_ (Ql HO_11.out) hb); have n3_ := ba_.mk (wa_ Qe hb); clear HO_7; clear HO_9; clear HO_11; clear HB; have HO_7 := n0_; have HO_9 := n1_; have HO_11 := n2_; have HB := n3_; clear n0_ n1_ n2_ n3_; (try clear hb); (try clear hb2); (try clear hk); (try clear hi)) | ((with_reducible refine xd_ (b := .append) (xs := #[.tmp 51, .tmp 62]) rfl ?_); at_builtin; refine Kd.qf_ (Kd.int .i64) (w0 := w) w.heap.size rfl (.tmp 51) (.tmp 62) 22 3 (.int .i64 0) 8 rfl Tryz.underlying22 gi_ rfl Qh Qa u11 x11_3 t115 [.int .i64 t115] (fun k_ => some k_ ≠ (.slice Ao5 x7_1.length co5 : Value).ownBlock) (fun _ => False) rfl rfl ?aP (fun _ hk => hk.elim) ?aF ?aO ?aB ?aS ?aL ?_; (case aP => exact rfl); (case aB => exact Q3); (case aF => exact (fun k_ hk => Kd.fresh' (Kd.R_lt (Ql HO_7.out)) k_ hk)); (case aO => exact (Ql HO_11.out)); (case aS => exact Q4); (case aL => have := LMc17.out; omega); intro v117 w19 ho hb hg hat; rw [← Ny116.out] at ho; have n0_ := ba_.mk (Kd.rl_ (ok := (fun _ => True)) (by (with_reducible repeat (first | apply Kd.eb_ | apply Kd.fb_ | apply Kd.rb_)); exact Kd.rd_ HO_7.out (fun _ hk => ⟨trivial, hk⟩)) hg hat); have n1_ := ba_.mk (Kd.tm_ (ok := (fun k_ => some k_ ≠ (.slice Ao5 x7_1.length co5 : Value).ownBlock)) (Xu HO_9.out) hg hat); have n2_ := ba_.mk (hb); have n3_ := ba_.mk (ho); clear HO_7; clear HO_9; clear HB; clear HO_11; have HO_7 := n0_; have HO_9 := n1_; have HB := n2_; have HO118 := n3_; clear n0_ n1_ n2_ n3_; clear ho hb hg hat))
        go_roundg k3
        case measure => exact Yc
        case rel => exact ⟨(y116), (wrap64 (x12_3 + 1)), Qi, H', ⟨Yg⟩, ⟨by (try simp only [hl7_1]); (with_reducible repeat (first | apply Kd.eb_ | apply Kd.fb_ | apply Kd.rb_)); exact Kd.rd_ HO_7.out (fun _ hk => hk.2)⟩, ⟨by (try simp only [hl7_1]); (with_reducible repeat (first | apply Kd.nf_ | apply Kd.of_ | apply Kd.rg_)); exact HO_9.out⟩, ⟨by (try simp only [hl7_1]); (with_reducible repeat (first | apply Kd.eb_ | apply Kd.fb_ | apply Kd.rb_)); exact HO118.out⟩, ⟨Qe⟩⟩
     rw [if_neg c13] at H
     have c13b0 := decide_eq_false c13
     clear c13
     obtain ⟨⟨t110, t111⟩, A27, H⟩ := Qk H
     try dsimp only at H
     simp only [Option.some.injEq, Prod.mk.injEq] at H
     obtain ⟨rfl, rfl⟩ := H
     obtain ⟨Ao28, co28, eo28⟩ := Kd.qo_ HO_9.out
     subst eo28
     obtain ⟨w0_, rfl⟩ : ∃ x : World, x = wr := ⟨_, rfl⟩
     obtain ⟨h6_, hn_, ho1_, ho2_, hp_, hr_, he_⟩ := aa1_ (ei_.ok A27.out)
     obtain ⟨g, cap, h, cc, ev_, HM_, Hg_, Hh_⟩ := sb1_ HO_9.out Qa hr_ Qa
     obtain ⟨go, coo, eo_, hgo_, hgl_, _⟩ := Kd.mi_ HO_7.out Qa
     injection ev_ with a_ b_ c_
     subst a_ c_
     injection eo_ with a_ b_ c_
     subst a_ c_
     have hRb : x9_2.length ≤ 100 := by omega
     have hnb : l1.length ≤ 100 := by omega
     have H6 := Lib.hid h6_
     have HN := Lib.hid hn_
     have HP := Lib.hid hp_
     have HGO := Lib.hid hgo_
     obtain ⟨M, hM_⟩ : ∃ M, M = rf_ x9_2 := ⟨_, rfl⟩
     have HT := Lib.hid (show Tl w0_ w.heap.size g x9_2.length (l1.length + 1) h cc M 3 go co5 x7_1.length x7_1 from ⟨by rw [hM_]; exact HM_, Kd.R_reok rfl HO_7.out (fun k hk => (Option.some.inj hk).symm), fun e => Hg_ (congrArg some e), fun i hi e => Hh_ i hi (congrArg some e), by rw [hM_]; exact he_⟩)
     have HMM := Lib.hid hM_
     have HB0 := Lib.hid HB.out
     clear h6_ hn_ hp_ hr_ he_ HM_ Hg_ Hh_ hM_ HO_7 HO_9 HB b_ ho1_ ho2_ hgo_ hgl_
     go_wp2
     go_loopw [13] (fun v wr => ∃ c : Nat, c ≤ l1.length ∧ v = .int .i64 c ∧ ∃ (h cc : Nat → Nat) (M' : Nat → Nat → Int), Hid (gjI x9_2.length M c = some M') ∧ Hid (Tl wr w.heap.size g x9_2.length (l1.length + 1) h cc M' 3 go co5 x7_1.length x7_1) ∧ Hid (Below w.heap.size w wr)) (fun v _ => l1.length - (intOf v).toNat)
     case atStart => exact ⟨0, Nat.zero_le _, rfl, h, cc, M, Lib.hid rfl, HT, HB0⟩
     case round =>
      clear HT HB0
      obtain ⟨c, hc, rfl, h, cc, M1, HG, HT, HB⟩ := hrel
      obtain ⟨wo, rfl⟩ : ∃ wo : World, wo = wr := ⟨_, rfl⟩
      by_cases hcn : c < l1.length
      rotate_left
      ·obtain rfl : c = l1.length := by omega
       have hs := Lib.hid (ei_.some A27.out (by rw [← H6.out, ← HMM.out]; exact HG.out))
       go_wp2
       go_loopw [21] (fun v wr => ∃ i : Nat, i ≤ l1.length ∧ v = .int .i64 i ∧ Hid (Tl wr w.heap.size g x9_2.length (l1.length + 1) h cc M1 3 go co5 x7_1.length (tailTo l1 M1 i x7_1)) ∧ Hid (Below w.heap.size w wr)) (fun v _ => l1.length - (intOf v).toNat)
       case atStart => exact ⟨0, Nat.zero_le _, rfl, HT, HB⟩
       case round =>
        clear HT HB
        obtain ⟨i, hi, rfl, HT, HB⟩ := hrel
        obtain ⟨w2, rfl⟩ : ∃ x : World, x = wr := ⟨_, rfl⟩
        by_cases hin : i < l1.length
        rotate_left
        ·obtain rfl : i = l1.length := by omega
         have hC := yh1_.calls (some ⟨go, 0, none⟩) co5 (tailTo l1 M1 l1.length x7_1) (gf_ (tailTo l1 M1 l1.length x7_1)) w2 (Kd.cc_ HT.out.row).2.2 (by have := (Kd.cc_ HT.out.row).2.1; rw [si_]; exact this) rfl
         rw [si_] at hC
         have HC := Lib.hid hC
         clear hC
         go_wp2_with (first | ((with_reducible refine ia_ (f := 121) rfl ?_); refine gc_ (some 214) rfl rfl Tryz.func121 Qb rfl #[.slice (some ⟨go, 0, none⟩) x7_1.length co5] rfl Xv ?_; (with_reducible refine HC.out.mono ?_); rintro e w9 ⟨rfl, hb⟩; refine ⟨_, rfl, ?_⟩; have HB9 := Lib.hid hb; clear hb))
         go_ret2
         exact ⟨_, by rw [hs.out.2]; rfl, by rw [hs.out.1]; exact Kd.rd_ (Kd.ne_ HT.out.row HB9.out) (fun _ _ => trivial), wa_ HB.out HB9.out⟩
        have hiR : i < x9_2.length := by have := H6.out; have := HN.out; omega
        have hq1 := eq_true (show ((l1.length : Int) < (l1.length : Int) + 1) from by omega)
        have hp0 := eq_true (HP.out i hin).1
        have hp1 := eq_true (HP.out i hin).2
        obtain ⟨adp, ep, hxp⟩ := Kd.sd_ HR1.out (i : Int) Qa Qa
        cases ep
        replace hxp := (HB.out.cell (World.block_lt_of_cell? w _ hxp)).trans hxp
        rw [Int.toNat_natCast] at hxp
        go_wp2
        have HT1 := Lib.hid HT.out.drew
        have HB1 := Lib.hid (ca_ HB.out)
        refine kh_ (n := 15) (S := fun w' => w'.cell? (adp.add i) = some (.int .i64 (rd l1 (i : Int))) ∧ w'.cell? ⟨g, i, none⟩ = some (.slice (some ⟨h i, 0, none⟩) (l1.length + 1) (cc i)) ∧ w'.cell? ⟨h i, l1.length, none⟩ = some (.int .i64 (M1 i l1.length))) (ds := [14]) #[false, false, false, false, false, false, false, false, false, false, false, false, false, false, false] Qb rfl rfl ⟨hxp, HT1.out.mat.out i hiR, HT1.out.mat.cel i l1.length hiR Qa⟩ (fun hHeld => ?_)
        generalize w2.drew = w5 at HT1 HB1 hHeld ⊢
        clear hxp
        obtain ⟨sr, sf⟩ := Kd.sg_ 0 HT1.out.row (rd l1 (i : Int)) (of_eq_true hp0) (of_eq_true hp1)
        refine oc_ (i := 0) (N := some 198) (v := ?_) (a' := ?_) #[true, false, false, false, false, false, false, false, false, false, false, false, false, false, false] rfl rfl Qb Qd (Or.inl ⟨by rfl, ?_⟩) ?_ ?_
        rotate_left
        ·exact Qf
        rotate_left
        ·exact Qc
        refine oc_ (i := 1) (N := some 199) (v := ?_) (a' := ?_) #[true, true, false, false, false, false, false, false, false, false, false, false, false, false, false] rfl rfl Qb Qd (Or.inl ⟨by rfl, ?_⟩) ?_ ?_
        rotate_left
        ·exact Qf
        rotate_left
        ·exact Qc
        refine oc_ (i := 2) (N := some 200) (v := ?_) (a' := ?_) #[true, true, true, false, false, false, false, false, false, false, false, false, false, false, false] rfl rfl Qb Qd (Or.inl ⟨by rfl, ?_⟩) ?_ ?_
        rotate_left
        ·exact Qf
        rotate_left
        ·exact Qc
        refine oc_ (i := 3) (N := some 201) (v := ?_) (a' := ?_) #[true, true, true, true, false, false, false, false, false, false, false, false, false, false, false] rfl rfl Qb Qd (Or.inl ⟨by rfl, ?_⟩) ?_ ?_
        rotate_left
        ·exact Qf
        rotate_left
        ·exact Qc
        refine oc_ (i := 5) (N := some 203) (v := ?_) (a' := ?_) #[true, true, true, true, false, true, false, false, false, false, false, false, false, false, false] rfl rfl Qb Qd (Or.inl ⟨by rfl, ?_⟩) ?_ ?_
        rotate_left
        ·exact Qf
        rotate_left
        ·exact Qc
        refine oc_ (i := 6) (N := some 204) (v := ?_) (a' := ?_) #[true, true, true, true, false, true, true, false, false, false, false, false, false, false, false] rfl rfl Qb Qd (Or.inl ⟨by rfl, ?_⟩) ?_ ?_
        rotate_left
        ·exact Qf
        rotate_left
        ·exact Qc
        refine oc_ (i := 7) (N := some 205) (v := ?_) (a' := ?_) #[true, true, true, true, false, true, true, true, false, false, false, false, false, false, false] rfl rfl Qb Qd (Or.inl ⟨by rfl, ?_⟩) ?_ ?_
        rotate_left
        ·exact Qf
        rotate_left
        ·exact Qc
        refine oc_ (i := 9) (N := some 207) (v := ?_) (a' := ?_) #[true, true, true, true, false, true, true, true, false, true, false, false, false, false, false] rfl rfl Qb Qd (Or.inl ⟨by rfl, ?_⟩) ?_ ?_
        rotate_left
        ·exact Qf
        rotate_left
        ·exact Qc
        refine oc_ (i := 10) (N := some 208) (v := ?_) (a' := ?_) #[true, true, true, true, false, true, true, true, false, true, true, false, false, false, false] rfl rfl Qb Qd (Or.inl ⟨by rfl, ?_⟩) ?_ ?_
        rotate_left
        ·exact Qf
        rotate_left
        ·exact Qc
        refine df_ (i := 4) (N := some 202) (v := ?_) (a' := ?_) #[true, true, true, true, true, true, true, true, false, true, true, false, false, false, false] rfl rfl Qb Qd (Or.inl ⟨by rfl, ?_⟩) hHeld ?_ ?_
        rotate_left
        ·exact Ys
        rotate_left
        ·exact Qc
        refine df_ (i := 8) (N := some 206) (v := ?_) (a' := ?_) #[true, true, true, true, true, true, true, true, true, true, true, false, false, false, false] rfl rfl Qb Qd (Or.inl ⟨by rfl, ?_⟩) hHeld ?_ ?_
        rotate_left
        ·exact Ys
        rotate_left
        ·exact Qc
        refine oc_ (i := 11) (N := some 209) (v := ?_) (a' := ?_) #[true, true, true, true, true, true, true, true, true, true, true, true, false, false, false] rfl rfl Qb Qd (Or.inl ⟨by rfl, ?_⟩) ?_ ?_
        rotate_left
        ·exact Qf
        rotate_left
        ·exact Qc
        refine df_ (i := 12) (N := some 210) (v := ?_) (a' := ?_) #[true, true, true, true, true, true, true, true, true, true, true, true, true, false, false] rfl rfl Qb Qd (Or.inl ⟨by rfl, ?_⟩) hHeld ?_ ?_
        rotate_left
        ·exact Ys
        rotate_left
        ·exact Qc
        refine oc_ (i := 13) (N := some 211) (v := ?_) (a' := ?_) #[true, true, true, true, true, true, true, true, true, true, true, true, true, true, false] rfl rfl Qb Qd (Or.inl ⟨by rfl, ?_⟩) ?_ ?_
        rotate_left
        ·exact Qf
        rotate_left
        ·exact Qc
        refine np_ (i := 14) (N := none) #[true, true, true, true, true, true, true, true, true, true, true, true, true, true, true] rfl rfl Qb Qh (fun K hK => ?_)
        refine xl_ (w1 := ?_) (by rfl) rfl ?_ ?_
        rotate_left
        ·go_simp
         rfl
        refine hK.out _ _ ?_
        clear hK K
        refine jk_ Qb ?_
        have HT3 := Lib.hid (Tl.put HT1.out (rd l1 (i : Int)) (M1 i l1.length))
        have HB3 := Lib.hid (HB1.out.setCell (p := ⟨go, (rd l1 (i : Int)).toNat, none⟩) HGO.out (.int .i64 (M1 i l1.length)))
        clear sr sf HT1 HB1 hHeld
        generalize w5.setCell ⟨go, (rd l1 (i : Int)).toNat, none⟩ (.int .i64 (M1 i l1.length)) = w6 at HT3 HB3 ⊢
        go_wp2
        go_roundw
        case rel => exact ⟨i + 1, Qa, Q2, HT3, HB3⟩
        case measure => simp [intOf]; omega
      have hcR : c < x9_2.length := by have := H6.out; have := HN.out; omega
      go_wp2
      go_loop [14] (fun v => ∃ r : Nat, c ≤ r ∧ r ≤ x9_2.length ∧ v = .int .i64 r ∧ Hid (∀ i, c ≤ i → i < r → M1 i c = 0)) (fun v => x9_2.length - (intOf v).toNat)
      case atStart => exact ⟨c, Nat.le_refl _, Qa, rfl, Lib.hid (fun i h1 h2 => by omega)⟩
      case round =>
       obtain ⟨r, hr1, hr2, rfl, HZ⟩ := hrel
       by_cases hrR : r < x9_2.length
       rotate_left
       ·have hb : ((r : Int) == (x9_2.length : Int)) = true := beq_iff_eq.2 Qa
        have hs := Lib.hid (ei_.none A27.out (by rw [← H6.out, ← HMM.out]; exact ut_ HG.out (by have := io_ hr1 hr2 HZ.out (fun h => absurd h hrR); rw [this]; omega) hcn))
        go_wp2
        go_ret2
        exact ⟨_, by rw [hs.out.2]; rfl, by rw [hs.out.1]; exact Kd.yf_ _ _ _ _ _, HB.out⟩
       have fo := HT.out.mat.out r hrR
       have fe := HT.out.mat.cel r c hrR Qa
       by_cases hz : M1 r c = 0
       ·have hb : ((M1 r c) == 0) = true := beq_iff_eq.2 hz
        have HZ1 := Lib.hid hz
        clear hz
        go_wp2
        go_round
        case rel => exact ⟨r + 1, Qa, Qa, Q2, Lib.hid (fun i h1 h2 => by rcases Nat.lt_or_ge i r with h3 | h3; exact HZ.out i h1 h3; rw [show i = r from by omega]; exact HZ1.out)⟩
        case measure => simp [intOf]; omega
       have hb : ((M1 r c) == 0) = false := beq_eq_false_iff_ne.2 hz
       have hb2 : ((r : Int) == (x9_2.length : Int)) = false := beq_eq_false_iff_ne.2 Qa
       have HZ1 := Lib.hid hz
       clear hz
       have fc := HT.out.mat.out c hcR
       have sf := HT.out.mat.fro c hcR
       have sg := HT.out.mat.fro r hrR
       obtain ⟨vr, hvr⟩ := ar_ fo ⟨g, c, none⟩ (.slice (some ⟨h r, 0, none⟩) (l1.length + 1) (cc r))
       have HT2 := Lib.hid (Tl.swap HT.out c r hcR hrR)
       have HB2 := Lib.hid ((HB.out.setCell (p := ⟨g, c, none⟩) HT.out.mat.lg (.slice (some ⟨h r, 0, none⟩) (l1.length + 1) (cc r))).setCell (p := ⟨g, r, none⟩) HT.out.mat.lg (.slice (some ⟨h c, 0, none⟩) (l1.length + 1) (cc c)))
       have fo2 := HT2.out.mat.out c hcR
       have fe2 := HT2.out.mat.cel c c hcR Qa
       obtain ⟨M2, hM2⟩ : ∃ x, x = dg_ M1 c r := ⟨_, rfl⟩
       obtain ⟨h2, hh2⟩ : ∃ x, x = dg_ h c r := ⟨_, rfl⟩
       obtain ⟨cc2, hcc2⟩ : ∃ x, x = dg_ cc c r := ⟨_, rfl⟩
       obtain ⟨b, hbb⟩ : ∃ x, x = invI (M2 c c) := ⟨_, rfl⟩
       rw [← hh2, ← hcc2, ← hM2] at HT2
       rw [← hh2, ← hcc2] at fo2
       rw [← hh2, ← hM2] at fe2
       have HE := Lib.hid hM2
       have HI := Lib.hid hbb
       clear hM2 hbb hh2 hcc2
       go_wp2_with (first | ((with_reducible refine ia_ (f := 119) rfl ?_); refine gc_ (some 122) rfl rfl Tryz.func119 Qb rfl #[.int .i64 (M2 c c)] rfl Xv ?_; (with_reducible refine (vp_.calls (M2 c c) _ _ rfl).mono ?_); rintro e w' ⟨rfl, ⟨nd, rfl⟩⟩; refine ⟨_, rfl, ?_⟩; rw [← HI.out]))
       have HT3 := Lib.hid (HT2.out.drewN nd)
       have HB3 := Lib.hid (aa_ HB2.out nd)
       clear HT2 HB2 fo2 fe2 hvr sf sg fc fo fe
       generalize ((wo.setCell ⟨g, c, none⟩ (.slice (some ⟨h r, 0, none⟩) (l1.length + 1) (cc r))).setCell ⟨g, r, none⟩ (.slice (some ⟨h c, 0, none⟩) (l1.length + 1) (cc c))).drewN nd = w3 at HT3 HB3 ⊢
       go_loopw [17] (fun v wr => ∃ k : Nat, k ≤ l1.length + 1 ∧ v = .int .i64 k ∧ Hid (Tl wr w.heap.size g x9_2.length (l1.length + 1) h2 cc2 (zh_ M2 c b k) 3 go co5 x7_1.length x7_1) ∧ Hid (Below w.heap.size w wr)) (fun v _ => l1.length + 1 - (intOf v).toNat)
       case atStart => exact ⟨0, Nat.zero_le _, rfl, Lib.hid (by rw [sn_]; exact HT3.out), HB3⟩
       case round =>
        clear HT3 HB3
        obtain ⟨k, hk, rfl, HM, HB⟩ := hrel
        obtain ⟨w4, rfl⟩ : ∃ x : World, x = wr := ⟨_, rfl⟩
        have fo := HM.out.mat.out c hcR
        by_cases hkn : k < l1.length + 1
        ·go_wp2
         have HM1 := Lib.hid (HM.out.drew)
         have HB1 := Lib.hid (ca_ HB.out)
         clear fo
         have fe : w4.drew.cell? ⟨h2 c, k, none⟩ = some (.int .i64 (M2 c k)) := by have := HM1.out.mat.cel c k hcR hkn; rwa [sr_] at this
         refine kh_ (n := 16) (S := fun w' => w'.cell? ⟨g, c, none⟩ = some (.slice (some ⟨h2 c, 0, none⟩) (l1.length + 1) (cc2 c)) ∧ w'.cell? ⟨h2 c, k, none⟩ = some (.int .i64 (M2 c k))) (ds := [15]) Y7 Qb rfl rfl ⟨HM1.out.mat.out c hcR, fe⟩ (fun hHeld => ?_)
         generalize w4.drew = w5 at HM1 HB1 hHeld ⊢
         clear fe
         refine oc_ (i := 0) (N := some 132) (v := ?_) (a' := ?_) Y8 rfl rfl Qb Qd (Or.inl ⟨by rfl, ?_⟩) ?_ ?_
         rotate_left
         ·exact Qf
         rotate_left
         ·exact Qc
         refine oc_ (i := 1) (N := some 133) (v := ?_) (a' := ?_) Y9 rfl rfl Qb Qd (Or.inl ⟨by rfl, ?_⟩) ?_ ?_
         rotate_left
         ·exact Qf
         rotate_left
         ·exact Qc
         refine oc_ (i := 2) (N := some 134) (v := ?_) (a' := ?_) Qaa rfl rfl Qb Qd (Or.inl ⟨by rfl, ?_⟩) ?_ ?_
         rotate_left
         ·exact Qf
         rotate_left
         ·exact Qc
         refine oc_ (i := 4) (N := some 136) (v := ?_) (a' := ?_) #[true, true, true, false, true, false, false, false, false, false, false, false, false, false, false, false] rfl rfl Qb Qd (Or.inl ⟨by rfl, ?_⟩) ?_ ?_
         rotate_left
         ·exact Qf
         rotate_left
         ·exact Qc
         refine oc_ (i := 5) (N := some 137) (v := ?_) (a' := ?_) #[true, true, true, false, true, true, false, false, false, false, false, false, false, false, false, false] rfl rfl Qb Qd (Or.inl ⟨by rfl, ?_⟩) ?_ ?_
         rotate_left
         ·exact Qf
         rotate_left
         ·exact Qc
         refine oc_ (i := 6) (N := some 138) (v := ?_) (a' := ?_) #[true, true, true, false, true, true, true, false, false, false, false, false, false, false, false, false] rfl rfl Qb Qd (Or.inl ⟨by rfl, ?_⟩) ?_ ?_
         rotate_left
         ·exact Qf
         rotate_left
         ·exact Qc
         refine oc_ (i := 7) (N := some 139) (v := ?_) (a' := ?_) #[true, true, true, false, true, true, true, true, false, false, false, false, false, false, false, false] rfl rfl Qb Qd (Or.inl ⟨by rfl, ?_⟩) ?_ ?_
         rotate_left
         ·exact Qf
         rotate_left
         ·exact Qc
         refine oc_ (i := 9) (N := some 141) (v := ?_) (a' := ?_) #[true, true, true, false, true, true, true, true, false, true, false, false, false, false, false, false] rfl rfl Qb Qd (Or.inl ⟨by rfl, ?_⟩) ?_ ?_
         rotate_left
         ·exact Qf
         rotate_left
         ·exact Qc
         refine oc_ (i := 12) (N := some 144) (v := ?_) (a' := ?_) #[true, true, true, false, true, true, true, true, false, true, false, false, true, false, false, false] rfl rfl Qb Qd (Or.inl ⟨by rfl, ?_⟩) ?_ ?_
         rotate_left
         ·exact Qf
         rotate_left
         ·exact Qc
         refine df_ (i := 3) (N := some 135) (v := ?_) (a' := ?_) #[true, true, true, true, true, true, true, true, false, true, false, false, true, false, false, false] rfl rfl Qb Qd (Or.inl ⟨by rfl, ?_⟩) hHeld ?_ ?_
         rotate_left
         ·exact Xd
         rotate_left
         ·exact Qc
         refine df_ (i := 8) (N := some 140) (v := ?_) (a' := ?_) #[true, true, true, true, true, true, true, true, true, true, false, false, true, false, false, false] rfl rfl Qb Qd (Or.inl ⟨by rfl, ?_⟩) hHeld ?_ ?_
         rotate_left
         ·exact Xd
         rotate_left
         ·exact Qc
         refine oc_ (i := 10) (N := some 142) (v := ?_) (a' := ?_) #[true, true, true, true, true, true, true, true, true, true, true, false, true, false, false, false] rfl rfl Qb Qd (Or.inl ⟨by rfl, ?_⟩) ?_ ?_
         rotate_left
         ·exact Qf
         rotate_left
         ·exact Qc
         refine df_ (i := 11) (N := some 143) (v := ?_) (a' := ?_) Qab rfl rfl Qb Qd (Or.inl ⟨by rfl, ?_⟩) hHeld ?_ ?_
         rotate_left
         ·exact Xd
         rotate_left
         ·exact Qc
         refine one_ (i := 13) (N := some 145) Qac rfl rfl Qb Qh (fun K hK => ?_)
         refine un_ Tryz.func120 Qb rfl #[.int .i64 (M2 c k), .int .i64 b] (by rfl) rfl rfl (by simp only [List.map_toArray, List.map_cons, List.map_nil]; rfl) ?_
         with_reducible refine (ss_.calls (M2 c k) b _ _ rfl).mono ?_
         rintro e w' ⟨rfl, ⟨nd, rfl⟩⟩
         refine ⟨_, rfl, ?_⟩
         have HM5 := Lib.hid (HM1.out.drewN nd)
         have HB5 := Lib.hid (aa_ HB1.out nd)
         have sr := HM5.out.mat.cel c k hcR hkn
         have sf := HM5.out.mat.frc c k hcR hkn
         refine hK.out _ _ ⟨hHeld.1, hHeld.2⟩ (fun hHeld => ?_)
         clear hK K
         refine kk_ (a' := ?_) ?_ ?_
         rotate_left
         ·show Act.put _ (some 145) _ = _
          simp only [Act.put, List.setIfInBounds_toArray, List.set_cons_zero, List.set_cons_succ, yb_, ac_]
          rfl
         refine oc_ (i := 14) (N := some 146) (v := ?_) (a' := ?_) Qad rfl rfl Qb Qd (Or.inl ⟨by rfl, ?_⟩) ?_ ?_
         rotate_left
         ·exact Qf
         rotate_left
         ·exact Qc
         refine np_ (i := 15) (N := none) Qae rfl rfl Qb Qh (fun K hK => ?_)
         refine xl_ (w1 := ?_) (by rfl) rfl ?_ ?_
         rotate_left
         ·go_simp
          rfl
         refine hK.out _ _ ?_
         clear hK K
         refine jk_ Qb ?_
         have HM6 := Lib.hid (Tl.set HM5.out c k hcR hkn (mulI (M2 c k) b) (rk_ _ _))
         have HB6 := Lib.hid (HB5.out.setCell (p := ⟨h2 c, k, none⟩) (HM5.out.mat.lo c hcR) (.int .i64 (mulI (M2 c k) b)))
         clear sr sf HM5 HB5 hHeld HM1 HB1
         generalize (w5.drewN nd).setCell ⟨h2 c, k, none⟩ (.int .i64 (mulI (M2 c k) b)) = w6 at HM6 HB6 ⊢
         go_wp2
         go_roundw
         case rel => exact ⟨k + 1, Qa, Q2, Lib.hid (by rw [← rn_]; exact HM6.out), HB6⟩
         case measure => simp [intOf]; omega
        obtain rfl : k = l1.length + 1 := by omega
        obtain ⟨M3, hM3⟩ : ∃ x, x = zh_ M2 c b (l1.length + 1) := ⟨_, rfl⟩
        rw [← hM3] at HM
        have HF := Lib.hid hM3
        clear hM3
        go_wp2
        go_loopw [18] (fun v wr => ∃ i : Nat, i ≤ x9_2.length ∧ v = .int .i64 i ∧ Hid (Tl wr w.heap.size g x9_2.length (l1.length + 1) h2 cc2 (rh_ M3 c i) 3 go co5 x7_1.length x7_1) ∧ Hid (Below w.heap.size w wr)) (fun v _ => x9_2.length - (intOf v).toNat)
        case atStart => exact ⟨0, Nat.zero_le _, rfl, Lib.hid (by rw [ep_]; exact HM.out), HB⟩
        case round =>
         clear HM HB fo
         obtain ⟨i, hi, rfl, HM, HB⟩ := hrel
         obtain ⟨w7, rfl⟩ : ∃ x : World, x = wr := ⟨_, rfl⟩
         by_cases hiR : i < x9_2.length
         rotate_left
         ·obtain rfl : i = x9_2.length := by omega
          go_wp2
          go_roundw
          case rel => exact ⟨c + 1, Qa, Q2, h2, cc2, rq_ M1 c r, Lib.hid (by rw [gjI, HG.out]; have hp := io_ hr1 hr2 HZ.out (fun _ => HZ1.out); simp only [hp]; rw [if_neg Qa]), Lib.hid (HM.out.congr (fun i' k' hi' hk' => by rw [cr_ M3 (tj_ M2 c b) c x9_2.length (l1.length + 1) (fun i k hk => by rw [HF.out]; exact bq_ M2 c b (l1.length + 1) i k hk) Qa i' k' hi' hk']; unfold rq_; rw [← HE.out, ← HI.out])), HB⟩
          case measure => simp [intOf]; omega
         have fo := HM.out.mat.out i hiR
         have fe : w7.cell? ⟨h2 i, c, none⟩ = some (.int .i64 (M3 i c)) := by have := HM.out.mat.cel i c hiR Qa; rwa [ok_] at this
         by_cases hic : i = c
         ·have hb : ((i : Int) != (c : Int)) = false := by simp; omega
          have HK := Lib.hid (wj_ M3 c i (.inl hic))
          clear hic
          go_wp2
          go_loopw [20] (fun v wr => v = .int .i64 0 ∧ wr = w7) (fun _ _ => 0)
          case atStart => exact ⟨rfl, rfl⟩
          case round =>
           obtain ⟨rfl, rfl⟩ := hrel
           have fc := HM.out.mat.out c hcR
           clear fo fe
           go_wp2
           go_roundw
           case rel => exact ⟨i + 1, Qa, Q2, Lib.hid (by rw [HK.out]; exact HM.out), HB⟩
           case measure => simp [intOf]; omega
         have hb : ((i : Int) != (c : Int)) = true := by simp; omega
         have hel := Lib.hid (fun k (hk : k < l1.length + 1) => (show isEl (M3 i k) = true from by have := HM.out.el i k hiR hk; rwa [ok_] at this))
         go_wp2
         go_loopw [20] (fun v wr => ∃ k : Nat, k ≤ l1.length + 1 ∧ v = .int .i64 k ∧ Hid (Tl wr w.heap.size g x9_2.length (l1.length + 1) h2 cc2 (tg_ M3 c i k) 3 go co5 x7_1.length x7_1) ∧ Hid (Below w.heap.size w wr)) (fun v _ => l1.length + 1 - (intOf v).toNat)
         case atStart => exact ⟨0, Nat.zero_le _, rfl, Lib.hid (by rw [ln_]; exact HM.out), HB⟩
         case round =>
          clear HM HB fo fe
          obtain ⟨k, hk, rfl, HM, HB⟩ := hrel
          obtain ⟨w8, rfl⟩ : ∃ x : World, x = wr := ⟨_, rfl⟩
          have fo := HM.out.mat.out c hcR
          by_cases hkn : k < l1.length + 1
          rotate_left
          ·obtain rfl : k = l1.length + 1 := by omega
           go_wp2
           go_roundw
           case rel => exact ⟨i + 1, Qa, Q2, Lib.hid (HM.out.congr (fun i' k' _ hk' => nt_ M3 c i x9_2.length (l1.length + 1) hic hel.out i' k' hk')), HB⟩
           case measure => simp [intOf]; omega
          go_wp2
          clear fo
          have HM1 := Lib.hid (HM.out.drew)
          have HB1 := Lib.hid (ca_ HB.out)
          have fi : w8.drew.cell? ⟨h2 i, k, none⟩ = some (.int .i64 (M3 i k)) := by have := HM1.out.mat.cel i k hiR hkn; rwa [dl_] at this
          have fc : w8.drew.cell? ⟨h2 c, k, none⟩ = some (.int .i64 (M3 c k)) := by have := HM1.out.mat.cel c k hcR hkn; rwa [vj_ _ _ _ _ _ hic] at this
          refine kh_ (n := 19) (S := fun w' => w'.cell? ⟨g, i, none⟩ = some (.slice (some ⟨h2 i, 0, none⟩) (l1.length + 1) (cc2 i)) ∧ w'.cell? ⟨h2 i, k, none⟩ = some (.int .i64 (M3 i k)) ∧ w'.cell? ⟨g, c, none⟩ = some (.slice (some ⟨h2 c, 0, none⟩) (l1.length + 1) (cc2 c)) ∧ w'.cell? ⟨h2 c, k, none⟩ = some (.int .i64 (M3 c k))) (ds := [18]) Qaf Qb rfl rfl ⟨HM1.out.mat.out i hiR, fi, HM1.out.mat.out c hcR, fc⟩ (fun hHeld => ?_)
          generalize w8.drew = w9 at HM1 HB1 hHeld ⊢
          clear fi fc
          refine oc_ (i := 0) (N := some 174) (v := ?_) (a' := ?_) Qag rfl rfl Qb Qd (Or.inl ⟨by rfl, ?_⟩) ?_ ?_
          rotate_left
          ·exact Qf
          rotate_left
          ·exact Qc
          refine oc_ (i := 1) (N := some 175) (v := ?_) (a' := ?_) Qai rfl rfl Qb Qd (Or.inl ⟨by rfl, ?_⟩) ?_ ?_
          rotate_left
          ·exact Qf
          rotate_left
          ·exact Qc
          refine oc_ (i := 2) (N := some 176) (v := ?_) (a' := ?_) Qaj rfl rfl Qb Qd (Or.inl ⟨by rfl, ?_⟩) ?_ ?_
          rotate_left
          ·exact Qf
          rotate_left
          ·exact Qc
          refine oc_ (i := 4) (N := some 178) (v := ?_) (a' := ?_) #[true, true, true, false, true, false, false, false, false, false, false, false, false, false, false, false, false, false, false] rfl rfl Qb Qd (Or.inl ⟨by rfl, ?_⟩) ?_ ?_
          rotate_left
          ·exact Qf
          rotate_left
          ·exact Qc
          refine oc_ (i := 7) (N := some 181) (v := ?_) (a' := ?_) #[true, true, true, false, true, false, false, true, false, false, false, false, false, false, false, false, false, false, false] rfl rfl Qb Qd (Or.inl ⟨by rfl, ?_⟩) ?_ ?_
          rotate_left
          ·exact Qf
          rotate_left
          ·exact Qc
          refine oc_ (i := 8) (N := some 182) (v := ?_) (a' := ?_) #[true, true, true, false, true, false, false, true, true, false, false, false, false, false, false, false, false, false, false] rfl rfl Qb Qd (Or.inl ⟨by rfl, ?_⟩) ?_ ?_
          rotate_left
          ·exact Qf
          rotate_left
          ·exact Qc
          refine oc_ (i := 9) (N := some 183) (v := ?_) (a' := ?_) #[true, true, true, false, true, false, false, true, true, true, false, false, false, false, false, false, false, false, false] rfl rfl Qb Qd (Or.inl ⟨by rfl, ?_⟩) ?_ ?_
          rotate_left
          ·exact Qf
          rotate_left
          ·exact Qc
          refine oc_ (i := 11) (N := some 185) (v := ?_) (a' := ?_) #[true, true, true, false, true, false, false, true, true, true, false, true, false, false, false, false, false, false, false] rfl rfl Qb Qd (Or.inl ⟨by rfl, ?_⟩) ?_ ?_
          rotate_left
          ·exact Qf
          rotate_left
          ·exact Qc
          refine oc_ (i := 14) (N := some 188) (v := ?_) (a' := ?_) #[true, true, true, false, true, false, false, true, true, true, false, true, false, false, true, false, false, false, false] rfl rfl Qb Qd (Or.inl ⟨by rfl, ?_⟩) ?_ ?_
          rotate_left
          ·exact Qf
          rotate_left
          ·exact Qc
          refine df_ (i := 3) (N := some 177) (v := ?_) (a' := ?_) #[true, true, true, true, true, false, false, true, true, true, false, true, false, false, true, false, false, false, false] rfl rfl Qb Qd (Or.inl ⟨by rfl, ?_⟩) hHeld ?_ ?_
          rotate_left
          ·exact Xp
          rotate_left
          ·exact Qc
          refine oc_ (i := 5) (N := some 179) (v := ?_) (a' := ?_) #[true, true, true, true, true, true, false, true, true, true, false, true, false, false, true, false, false, false, false] rfl rfl Qb Qd (Or.inl ⟨by rfl, ?_⟩) ?_ ?_
          rotate_left
          ·exact Qf
          rotate_left
          ·exact Qc
          refine df_ (i := 6) (N := some 180) (v := ?_) (a' := ?_) #[true, true, true, true, true, true, true, true, true, true, false, true, false, false, true, false, false, false, false] rfl rfl Qb Qd (Or.inl ⟨by rfl, ?_⟩) hHeld ?_ ?_
          rotate_left
          ·exact Xp
          rotate_left
          ·exact Qc
          refine df_ (i := 10) (N := some 184) (v := ?_) (a' := ?_) #[true, true, true, true, true, true, true, true, true, true, true, true, false, false, true, false, false, false, false] rfl rfl Qb Qd (Or.inl ⟨by rfl, ?_⟩) hHeld ?_ ?_
          rotate_left
          ·exact Xp
          rotate_left
          ·exact Qc
          refine oc_ (i := 12) (N := some 186) (v := ?_) (a' := ?_) #[true, true, true, true, true, true, true, true, true, true, true, true, true, false, true, false, false, false, false] rfl rfl Qb Qd (Or.inl ⟨by rfl, ?_⟩) ?_ ?_
          rotate_left
          ·exact Qf
          rotate_left
          ·exact Qc
          refine df_ (i := 13) (N := some 187) (v := ?_) (a' := ?_) Qak rfl rfl Qb Qd (Or.inl ⟨by rfl, ?_⟩) hHeld ?_ ?_
          rotate_left
          ·exact Xp
          rotate_left
          ·exact Qc
          refine one_ (i := 15) (N := some 189) Qal rfl rfl Qb Qh (fun K hK => ?_)
          refine un_ Tryz.func120 Qb rfl #[.int .i64 (M3 c k), .int .i64 (M3 i c)] (by rfl) rfl rfl (by simp only [List.map_toArray, List.map_cons, List.map_nil]; rfl) ?_
          with_reducible refine (ss_.calls (M3 c k) (M3 i c) _ _ rfl).mono ?_
          rintro e w' ⟨rfl, ⟨nd, rfl⟩⟩
          refine ⟨_, rfl, ?_⟩
          have HM5 := Lib.hid (HM1.out.drewN nd)
          have HB5 := Lib.hid (aa_ HB1.out nd)
          generalize w9.drewN nd = w10 at HM5 HB5 ⊢
          have sr := HM5.out.mat.cel i k hiR hkn
          have sf := HM5.out.mat.frc i k hiR hkn
          refine hK.out _ _ ⟨HM5.out.mat.out i hiR, by have := HM5.out.mat.cel i k hiR hkn; rwa [dl_] at this, HM5.out.mat.out c hcR, by have := HM5.out.mat.cel c k hcR hkn; rwa [vj_ _ _ _ _ _ hic] at this⟩ (fun hHeld => ?_)
          clear hK K
          refine kk_ (a' := ?_) ?_ ?_
          rotate_left
          ·show Act.put _ (some 189) _ = _
           simp only [Act.put, List.setIfInBounds_toArray, List.set_cons_zero, List.set_cons_succ, yb_, ac_]
           rfl
          refine oc_ (i := 16) (N := some 190) (v := ?_) (a' := ?_) Qam rfl rfl Qb Qd (Or.inl ⟨by rfl, ?_⟩) ?_ ?_
          rotate_left
          ·exact Qf
          rotate_left
          ·exact Qc
          refine oc_ (i := 17) (N := some 191) (v := ?_) (a' := ?_) Qan rfl rfl Qb Qd (Or.inl ⟨by rfl, ?_⟩) ?_ ?_
          rotate_left
          ·exact Qf
          rotate_left
          ·exact Qc
          refine np_ (i := 18) (N := none) Qao rfl rfl Qb Qh (fun K hK => ?_)
          refine xl_ (w1 := ?_) (by rfl) rfl ?_ ?_
          rotate_left
          ·go_simp
           rfl
          refine hK.out _ _ ?_
          clear hK K
          refine jk_ Qb ?_
          have HM6 := Lib.hid (show Tl (w10.setCell ⟨h2 i, k, none⟩ (.int .i64 (Go.bits .xor .i64 (M3 i k) (mulI (M3 c k) (M3 i c))))) w.heap.size g x9_2.length (l1.length + 1) h2 cc2 (tg_ M3 c i (k + 1)) 3 go co5 x7_1.length x7_1 from by rw [← kn_, ub1_ (M3 i c)]; exact Tl.set HM5.out i k hiR hkn _ (xt_ (hel.out k hkn) (rk_ _ _)))
          have HB6 := Lib.hid (HB5.out.setCell (p := ⟨h2 i, k, none⟩) (HM5.out.mat.lo i hiR) (.int .i64 (Go.bits .xor .i64 (M3 i k) (mulI (M3 c k) (M3 i c)))))
          clear sr sf HM5 HB5 hHeld HM1 HB1
          generalize w10.setCell ⟨h2 i, k, none⟩ (.int .i64 (Go.bits .xor .i64 (M3 i k) (mulI (M3 c k) (M3 i c)))) = w11 at HM6 HB6 ⊢
          go_wp2
          refine ⟨?_, ?measure⟩
          iterate 33 (apply Exists.intro)
          refine ⟨?rel, ?fr⟩
          case fr => rfl
          case rel => exact ⟨k + 1, Qa, Q2, HM6, HB6⟩
          case measure => simp [intOf]; omega
def nc_.f (a0 : Int) : Option (Int) := if (wrap64 (a0 * 2)) ≥ 32 then (some (Go.bits .xor .i64 (wrap64 (a0 * 2)) 37)) else (some (wrap64 (a0 * 2)))
set_option maxHeartbeats 8000000 in
set_option maxRecDepth 100000 in
theorem nc_.calls (a0 : Int) (r : Int) (w : World) (h : nc_.f a0 = some r) :
  Calls Tryz.prog 114 #[.int .i64 a0] w fun e w' => e = .returned (.int .i64 r) ∧ ja_ w w' := by
 have H : (if (wrap64 (a0 * 2)) ≥ 32 then (some (Go.bits .xor .i64 (wrap64 (a0 * 2)) 37)) else (some (wrap64 (a0 * 2)))) = some r := h
 clear h
 by_cases c2 : (wrap64 (a0 * 2)) ≥ 32
 ·exact Xg
 ·exact Xh
end Go.Proofs.YtpkhgapifnjbeaaGreatDoor.R
end
section
namespace Go.Proofs.YtpkhgapifnjbeaaGreatDoor.R
open RowKit G Rs Zw.PrintWords Zw.PrintLast Zw.PrintMore
attribute [local go_sem] id_ kd_ vd_ wd_ bd_ cd_ jd_ ld_
end Go.Proofs.YtpkhgapifnjbeaaGreatDoor.R
end
section
namespace Go.Proofs.YtpkhgapifnjbeaaGreatDoor.K
open RowKit G Zw.PrintWords Zw.PrintLast Zw.PrintMore
attribute [local go_sem] id_ kd_ vd_ wd_ bd_ cd_ jd_ ld_
def errW : Option Int → Value
 | none => .nilIface
 | some c => .iface 0 (.int .i64 c)
theorem ta_ : errW none = .nilIface := rfl
theorem ua_ (c : Int) : errW (some c) = .iface 0 (.int .i64 c) := rfl
def sf_ (xs : List (List Int)) (i : Int) : (List Int) := xs.getD i.toNat ([] : List Int)
theorem dt_ {w : World} {A : Option Addr} {n : Nat} {xs : List (List Int)} (h : Kd.C (Kd.slice 3 (Kd.int .i64)) w A n xs) (i : Int) (h0 : 0 ≤ i) (h1 : i < n) : ∃ ad A0 c0, A = some ad ∧ w.cell? (ad.add i.toNat) = some (.slice A0 (sf_ xs i).length c0) ∧ (sf_ xs i).length ≤ c0 ∧ (Kd.int .i64).C w A0 (sf_ xs i).length (sf_ xs i) := by
 obtain ⟨ad, c, e, _, hK, hc0⟩ := Kd.oi_ h ([] : List Int) i h0 h1
 have hc : ∀ j u, c[j]? = some u → w.cell? (ad.add (i.toNat * 1 + j)) = some u := hc0
 obtain ⟨A0, c0, rfl, l0, g0⟩ := hK
 exact ⟨ad, A0, c0, e, Q0, l0, g0⟩
end Go.Proofs.YtpkhgapifnjbeaaGreatDoor.K
end
section
namespace Go.Proofs.YtpkhgapifnjbeaaGreatDoor.K
open RowKit G Zw.PrintWords Zw.PrintLast Zw.PrintMore
attribute [local go_sem] id_ kd_ vd_ wd_ bd_ cd_ jd_ ld_
def ve_.f (a0 : Int) (a1 : Int) : Option (Int × Int) := some (((IntKind.u64.wrap ((IntKind.u64.wrap (a0)) * (IntKind.u64.wrap (a1)))) / 4294967296) % 4294967296, (IntKind.u64.wrap ((IntKind.u64.wrap (a0)) * (IntKind.u64.wrap (a1)))) % 4294967296)
set_option maxHeartbeats 8000000 in
set_option maxRecDepth 100000 in
theorem ve_.calls (a0 : Int) (a1 : Int) (r1 : Int) (r2 : Int) (w : World) (h : ve_.f a0 a1 = some (r1, r2)) :
  Calls Tryz.prog 99 #[.int .u32 a0, .int .u32 a1] w fun e w' => e = .returned (.tuple #[.int .u32 r1, .int .u32 r2]) ∧ ja_ w w' := by
 have H : (some (((IntKind.u64.wrap ((IntKind.u64.wrap (a0)) * (IntKind.u64.wrap (a1)))) / 4294967296) % 4294967296, (IntKind.u64.wrap ((IntKind.u64.wrap (a0)) * (IntKind.u64.wrap (a1)))) % 4294967296)) = some (r1, r2) := h
 clear h
 simp only [Option.some.injEq, Prod.mk.injEq] at H
 obtain ⟨rfl, rfl⟩ := H
 go_enter Tryz.func99, Tryz.ntmps99
 go_wp2
 go_ret2
 exact ⟨Qi, Qp⟩
def qd_.f (a0 : Int) (a1 : Int) : Option (Int × Int) := some (IntKind.u64.wrap ((IntKind.u64.wrap ((IntKind.u64.wrap ((a0 / 4294967296) * (a1 / 4294967296))) + ((IntKind.u64.wrap ((IntKind.u64.wrap ((a0 / 4294967296) * (Go.bits .and .u64 a1 4294967295))) + ((IntKind.u64.wrap ((Go.bits .and .u64 a0 4294967295) * (Go.bits .and .u64 a1 4294967295))) / 4294967296))) / 4294967296))) + ((IntKind.u64.wrap ((Go.bits .and .u64 (IntKind.u64.wrap ((IntKind.u64.wrap ((a0 / 4294967296) * (Go.bits .and .u64 a1 4294967295))) + ((IntKind.u64.wrap ((Go.bits .and .u64 a0 4294967295) * (Go.bits .and .u64 a1 4294967295))) / 4294967296))) 4294967295) + (IntKind.u64.wrap ((Go.bits .and .u64 a0 4294967295) * (a1 / 4294967296))))) / 4294967296)), IntKind.u64.wrap (a0 * a1))
set_option maxHeartbeats 8000000 in
set_option maxRecDepth 100000 in
theorem qd_.calls (a0 : Int) (a1 : Int) (r1 : Int) (r2 : Int) (w : World) (h : qd_.f a0 a1 = some (r1, r2)) :
  Calls Tryz.prog 100 #[.int .u64 a0, .int .u64 a1] w fun e w' => e = .returned (.tuple #[.int .u64 r1, .int .u64 r2]) ∧ ja_ w w' := by
 have H : (some (IntKind.u64.wrap ((IntKind.u64.wrap ((IntKind.u64.wrap ((a0 / 4294967296) * (a1 / 4294967296))) + ((IntKind.u64.wrap ((IntKind.u64.wrap ((a0 / 4294967296) * (Go.bits .and .u64 a1 4294967295))) + ((IntKind.u64.wrap ((Go.bits .and .u64 a0 4294967295) * (Go.bits .and .u64 a1 4294967295))) / 4294967296))) / 4294967296))) + ((IntKind.u64.wrap ((Go.bits .and .u64 (IntKind.u64.wrap ((IntKind.u64.wrap ((a0 / 4294967296) * (Go.bits .and .u64 a1 4294967295))) + ((IntKind.u64.wrap ((Go.bits .and .u64 a0 4294967295) * (Go.bits .and .u64 a1 4294967295))) / 4294967296))) 4294967295) + (IntKind.u64.wrap ((Go.bits .and .u64 a0 4294967295) * (a1 / 4294967296))))) / 4294967296)), IntKind.u64.wrap (a0 * a1))) = some (r1, r2) := h
 clear h
 simp only [Option.some.injEq, Prod.mk.injEq] at H
 obtain ⟨rfl, rfl⟩ := H
 go_enter Tryz.func100, Tryz.ntmps100
 go_wp2
 go_ret2
 exact ⟨Qi, Qp⟩
def lf_.f (a0 : Int) (a1 : Int) : Option (Int × Int) := (qd_.f a0 a1).bind fun bt102 => (some (bt102.1, bt102.2))
set_option maxHeartbeats 8000000 in
set_option maxRecDepth 100000 in
theorem lf_.calls (a0 : Int) (a1 : Int) (r1 : Int) (r2 : Int) (w : World) (h : lf_.f a0 a1 = some (r1, r2)) :
  Calls Tryz.prog 71 #[.int .u64 a0, .int .u64 a1] w fun e w' => e = .returned (.tuple #[.int .u64 r1, .int .u64 r2]) ∧ ja_ w w' := by
 have H : ((qd_.f a0 a1).bind fun bt102 => (some (bt102.1, bt102.2))) = some (r1, r2) := h
 clear h
 obtain ⟨⟨t102, t103⟩, A3, H⟩ := Qk H
 try dsimp only at H
 simp only [Option.some.injEq, Prod.mk.injEq] at H
 obtain ⟨rfl, rfl⟩ := H
 go_enter Tryz.func71, Tryz.ntmps71
 go_wp2_with (first | ((with_reducible refine ia_ (f := 100) rfl ?_); refine gc_ (some 25) rfl rfl Tryz.func100 Qb rfl #[.int .u64 a0, .int .u64 a1] rfl Qj ?_; (with_reducible refine (qd_.calls a0 a1 t102 t103 _ A3.out).mono ?_); rintro e w' ⟨rfl, ⟨nd, rfl⟩⟩; refine ⟨_, rfl, ?_⟩))
 go_ret2
 exact ⟨Qi, Qp⟩
def nc_.f (a0 : Int) : Option (Int) := if (wrap64 (a0 * 2)) ≥ 32 then (some (Go.bits .xor .i64 (wrap64 (a0 * 2)) 37)) else (some (wrap64 (a0 * 2)))
set_option maxHeartbeats 8000000 in
set_option maxRecDepth 100000 in
theorem nc_.calls (a0 : Int) (r : Int) (w : World) (h : nc_.f a0 = some r) :
  Calls Tryz.prog 114 #[.int .i64 a0] w fun e w' => e = .returned (.int .i64 r) ∧ ja_ w w' := by
 have H : (if (wrap64 (a0 * 2)) ≥ 32 then (some (Go.bits .xor .i64 (wrap64 (a0 * 2)) 37)) else (some (wrap64 (a0 * 2)))) = some r := h
 clear h
 by_cases c2 : (wrap64 (a0 * 2)) ≥ 32
 ·exact Xg
 ·exact Xh
end Go.Proofs.YtpkhgapifnjbeaaGreatDoor.K
end
section
namespace Go.Proofs.YtpkhgapifnjbeaaGreatDoor.K
open RowKit G Zw.PrintWords Zw.PrintLast Zw.PrintMore
attribute [local go_sem] id_ kd_ vd_ wd_ bd_ cd_ jd_ ld_
end Go.Proofs.YtpkhgapifnjbeaaGreatDoor.K
end
