/- Put together by pack2.py. -/
import Derived.Test.YtpkhgapifnjbeaaGreatDoorProg
import Derived.Below
import Derived.Deep.Draws
import Derived.Deep.AppendLies
import Derived.Maps.AppendAt
import Derived.OwnWalk
import Derived.Laws.BytesArg
import Derived.Laws.MakeOwn
import Derived.Laws.OwnMore
import Derived.Deep.OwnRows
import Derived.Tactics
import Derived.Lib.ConvBytes
import Derived.Laws.Slices
import Derived.WalkKit
import Derived.KernelRfl
import Derived.RowKit3
import Derived.Deep.LoopGhost
import Derived.Deep.QuietTactic
import Derived.BigQuiet
import Derived.WideLaws
import Derived.Deep.DeepCutAuto
import Derived.Deep.CutBlock
import Derived.Deep.RegionHeld3
import Derived.Laws.Rows
import Derived.Lib.AppendStr
import Derived.ArgAppend
import Derived.Laws.IdiomCopy
import Derived.OrdersHeld
import Derived.Laws.BitsLemmas
import Derived.RowKit
import Derived.Lib.Hide
import Derived.Deep.WholeRow
import Derived.Laws.CopyOwn
import Derived.Outline
import Derived.LoopTactic
import Derived.WalkSpells
import Derived.Test.YtpkhgapifnjbeaaGreatDoorTB0
set_option linter.unusedVariables false
set_option linter.unusedSimpArgs false
section
namespace Go.Proofs.YtpkhgapifnjbeaaGreatDoor.B
open RowKit Zw.PrintWords Zw.PrintLast Zw.PrintMore
attribute [local go_sem] pd_ rd_ yd_ zd_ dd_ ed_ qd_ sd_
end Go.Proofs.YtpkhgapifnjbeaaGreatDoor.B
end
section
namespace Go.Proofs.YtpkhgapifnjbeaaGreatDoor.B
open RowKit Zw.PrintWords Zw.PrintLast Zw.PrintMore
attribute [local go_sem] pd_ rd_ yd_ zd_ dd_ ed_ qd_ sd_
def xc_.f (a0 : Int) : Option (Int) := if (wrap64 (a0 * 2)) ≥ 32 then (some (Go.bits .xor .i64 (wrap64 (a0 * 2)) 37)) else (some (wrap64 (a0 * 2)))
set_option maxHeartbeats 8000000 in
set_option maxRecDepth 100000 in
theorem xc_.calls (a0 : Int) (r : Int) (w : World) (h : xc_.f a0 = some r) :
  Calls Tryz.prog 114 #[.int .i64 a0] w fun e w' => e = .returned (.int .i64 r) ∧ vb_ w w' := by
 have H : (if (wrap64 (a0 * 2)) ≥ 32 then (some (Go.bits .xor .i64 (wrap64 (a0 * 2)) 37)) else (some (wrap64 (a0 * 2)))) = some r := h
 clear h
 by_cases c2 : (wrap64 (a0 * 2)) ≥ 32
 ·rw [if_pos c2] at H
  have c2b0 : decide (32 ≤ (wrap64 (a0 * 2))) = true := decide_eq_true c2
  clear c2
  obtain rfl := Option.some.inj H
  go_enter Tryz.func114, Tryz.ntmps114
  go_wp2
  go_ret
  exact ⟨Ql, Qx⟩
 rw [if_neg c2] at H
 have c2b0 : decide (32 ≤ (wrap64 (a0 * 2))) = false := decide_eq_false c2
 clear c2
 obtain rfl := Option.some.inj H
 go_enter Tryz.func114, Tryz.ntmps114
 go_wp2
 go_ret
 exact ⟨Ql, Qx⟩
def rc_.l0 : Nat → Int → Int → Int → Option (Int)
 | 0, _, _, _ => none
 | k + 1, x3, x7, x8 => if x8 < x7 then ((xc_.f x3).bind fun t101 => (rc_.l0 k t101 x7 (wrap64 (x8 + 1)))) else (some x3)
def rc_.f (k : Nat) (a0 : Int) : Option (Int) := rc_.l0 k 1 (Int.tmod (wrap64 ((Int.tmod a0 31) + 31)) 31) 0
theorem rc_.nd_ : ∀ k, (∀ y0 y1 y2, LeO (rc_.l0 k y0 y1 y2) (rc_.l0 (k + 1) y0 y1 y2))
 | 0 => fun _ _ _ r h => by simp [rc_.l0] at h
 | k + 1 => by
  have ih0 := rc_.nd_ k
  intro y0 y1 y2
  unfold rc_.l0
  exact Qr
theorem rc_.mono : ∀ a0 k, LeO (rc_.f k a0) (rc_.f (k + 1) a0) := by
 intro a0 k
 have ih0 := rc_.nd_ k
 unfold rc_.f
 exact Qr
set_option maxHeartbeats 8000000 in
set_option maxRecDepth 100000 in
theorem rc_.calls (k : Nat) (a0 : Int) (r : Int) (w : World) (h : rc_.f k a0 = some r) :
  Calls Tryz.prog 80 #[.int .i64 a0] w fun e w' => e = .returned (.int .i64 r) ∧ vb_ w w' := by
 have H : (rc_.l0 k 1 (Int.tmod (wrap64 ((Int.tmod a0 31) + 31)) 31) 0) = some r := h
 clear h
 have H' := ba_.mk H
 clear H
 go_enter Tryz.func80, Tryz.ntmps80
 go_wp2
 go_loopg [3, 8] k (fun kq v3 v8 w' => ∃ (x3_1 : Int) (x8_1 : Int), v3 = .int .i64 x3_1 ∧ v8 = .int .i64 x8_1 ∧ ba_ (rc_.l0 kq x3_1 (Int.tmod (wrap64 ((Int.tmod a0 31) + 31)) 31) x8_1 = some r) ∧ ba_ (kq ≤ k) ∧ vb_ w w')
 case atStart => exact ⟨(1), (0), Ql, Ql, H', ⟨Nat.le_refl _⟩, Qx⟩
 case round =>
  clear H'
  obtain ⟨x3_1, x8_1, rfl, rfl, HA, HK1, ⟨m1, rfl⟩⟩ := hrel
  cases gk with
  | zero => exact absurd HA.out (by simp [rc_.l0])
  | succ k1 =>
   have H := HA.out
   clear HA
   simp only [rc_.l0] at H
   by_cases c2 : x8_1 < (Int.tmod (wrap64 ((Int.tmod a0 31) + 31)) 31)
   rotate_left
   ·rw [if_neg c2] at H
    have c2b0 := decide_eq_false c2
    clear c2
    obtain rfl := Option.some.inj H
    go_wp2
    go_ret
    exact ⟨Ql, Qx⟩
   rw [if_pos c2] at H
   have c2b0 := decide_eq_true c2
   clear c2
   obtain ⟨t101, A3, H⟩ := Qo H
   try dsimp only at H
   have H' := ba_.mk H
   clear H
   go_wp2_with (first | ((with_reducible refine va_ (f := 114) rfl ?_); refine lc_ (some 11) rfl rfl Tryz.func114 Qb rfl #[.int .i64 x3_1] rfl Qm ?_; (with_reducible refine (xc_.calls x3_1 t101 _ A3.out).mono ?_); rintro e w' ⟨rfl, ⟨nd, rfl⟩⟩; refine ⟨_, rfl, ?_⟩))
   go_roundg k1
   case measure => have := HK1.out; omega
   case rel => exact ⟨(t101), (wrap64 (x8_1 + 1)), Ql, Ql, H', ⟨Xf⟩, Qx⟩
def wd_.f (a0 : Int) : Option (Bool) := if a0 ≥ 0 then (some (decide (a0 < 32))) else (some false)
set_option maxHeartbeats 8000000 in
set_option maxRecDepth 100000 in
theorem wd_.calls (a0 : Int) (r : Bool) (w : World) (h : wd_.f a0 = some r) :
  Calls Tryz.prog 112 #[.int .i64 a0] w fun e w' => e = .returned (.bool r) ∧ vb_ w w' := by
 have H : (if a0 ≥ 0 then (some (decide (a0 < 32))) else (some false)) = some r := h
 clear h
 by_cases c2 : a0 ≥ 0
 ·rw [if_pos c2] at H
  have c2b0 : decide (0 ≤ a0) = true := decide_eq_true c2
  clear c2
  obtain rfl := Option.some.inj H
  go_enter Tryz.func112, Tryz.ntmps112
  go_wp2
  go_ret
  exact ⟨Ql, Qx⟩
 rw [if_neg c2] at H
 have c2b0 : decide (0 ≤ a0) = false := decide_eq_false c2
 clear c2
 obtain rfl := Option.some.inj H
 go_enter Tryz.func112, Tryz.ntmps112
 go_wp2
 go_ret
 exact ⟨Ql, Qx⟩
def jd_.l0 : Nat → Int → Int → Int → Option (Int)
 | 0, _, _, _ => none
 | k + 1, x0, x3, x5 => if x5 < 31 then (if x3 = x0 then (some x5) else ((xc_.f x3).bind fun t102 => (jd_.l0 k x0 t102 (wrap64 (x5 + 1))))) else (some 0)
def jd_.f (k : Nat) (a0 : Int) : Option (Int) := jd_.l0 k a0 1 0
theorem jd_.nd_ : ∀ k, (∀ y0 y1 y2, LeO (jd_.l0 k y0 y1 y2) (jd_.l0 (k + 1) y0 y1 y2))
 | 0 => fun _ _ _ r h => by simp [jd_.l0] at h
 | k + 1 => by
  have ih0 := jd_.nd_ k
  intro y0 y1 y2
  unfold jd_.l0
  exact Qr
theorem jd_.mono : ∀ a0 k, LeO (jd_.f k a0) (jd_.f (k + 1) a0) := by
 intro a0 k
 have ih0 := jd_.nd_ k
 unfold jd_.f
 exact Qr
set_option maxHeartbeats 8000000 in
set_option maxRecDepth 100000 in
theorem jd_.calls (k : Nat) (a0 : Int) (r : Int) (w : World) (h : jd_.f k a0 = some r) :
  Calls Tryz.prog 113 #[.int .i64 a0] w fun e w' => e = .returned (.int .i64 r) ∧ vb_ w w' := by
 have H : (jd_.l0 k a0 1 0) = some r := h
 clear h
 have H' := ba_.mk H
 clear H
 go_enter Tryz.func113, Tryz.ntmps113
 go_wp2
 go_loopg [3, 5] k (fun kq v3 v5 w' => ∃ (x3_1 : Int) (x5_1 : Int), v3 = .int .i64 x3_1 ∧ v5 = .int .i64 x5_1 ∧ ba_ (jd_.l0 kq a0 x3_1 x5_1 = some r) ∧ ba_ (kq ≤ k) ∧ vb_ w w')
 case atStart => exact ⟨(1), (0), Ql, Ql, H', ⟨Nat.le_refl _⟩, Qx⟩
 case round =>
  clear H'
  try clear c1
  obtain ⟨x3_1, x5_1, rfl, rfl, HA, HK1, ⟨m1, rfl⟩⟩ := hrel
  cases gk with
  | zero => exact absurd HA.out (by simp [jd_.l0])
  | succ k1 =>
   have H := HA.out
   clear HA
   simp only [jd_.l0] at H
   by_cases c2 : x5_1 < 31
   rotate_left
   ·rw [if_neg c2] at H
    have c2b0 := decide_eq_false c2
    clear c2
    obtain rfl := Option.some.inj H
    go_wp2
    go_ret
    exact ⟨Ql, Qx⟩
   rw [if_pos c2] at H
   have c2b0 := decide_eq_true c2
   clear c2
   by_cases c3 : x3_1 = a0
   ·rw [if_pos c3] at H
    have c3b0 : (x3_1 == a0) = true := beq_iff_eq.mpr c3
    have c3b1 : (x3_1 != a0) = false := bne_eq_false_iff_eq.mpr c3
    clear c3
    obtain rfl := Option.some.inj H
    go_wp2
    go_ret
    exact ⟨Ql, Qx⟩
   rw [if_neg c3] at H
   have c3b0 : (x3_1 == a0) = false := beq_eq_false_iff_ne.mpr c3
   have c3b1 : (x3_1 != a0) = true := bne_iff_ne.mpr c3
   obtain ⟨t102, A4, H⟩ := Qo H
   try dsimp only at H
   have H' := ba_.mk H
   clear H
   go_wp2_with (first | ((with_reducible refine va_ (f := 114) rfl ?_); refine lc_ (some 13) rfl rfl Tryz.func114 Qb rfl #[.int .i64 x3_1] rfl Qm ?_; (with_reducible refine (xc_.calls x3_1 t102 _ A4.out).mono ?_); rintro e w' ⟨rfl, ⟨nd, rfl⟩⟩; refine ⟨_, rfl, ?_⟩))
   go_roundg k1
   case measure => have := HK1.out; omega
   case rel => exact ⟨(t102), (wrap64 (x5_1 + 1)), Ql, Ql, H', ⟨Xf⟩, Qx⟩
def bd_.j0 : Nat → Int → Int → Bool → Option (Int)
 | 0, _, _, _ => none
 | k + 1, x0, x1, x20 => if x20 = true then (some 0) else ((jd_.f k x0).bind fun t105 => ((jd_.f k x1).bind fun t106 => ((rc_.f k (wrap64 (t105 + t106))).bind fun t107 => (some t107))))
def bd_.f (k : Nat) (a0 : Int) (a1 : Int) : Option (Int) := (wd_.f a0).bind fun t103 => (if t103 = true then ((wd_.f a1).bind fun t104 => (if t104 = true then (if a0 = 0 then (bd_.j0 k a0 a1 true) else (bd_.j0 k a0 a1 (a1 == 0))) else (bd_.j0 k a0 a1 true))) else (bd_.j0 k a0 a1 true))
theorem bd_.nd_ : ∀ k, (∀ y0 y1 y2, LeO (bd_.j0 k y0 y1 y2) (bd_.j0 (k + 1) y0 y1 y2))
 | 0 => fun _ _ _ r h => by simp [bd_.j0] at h
 | k + 1 => by
  have ih0 := bd_.nd_ k
  intro y0 y1 y2
  unfold bd_.j0
  have m0 := rc_.mono
  have m1 := jd_.mono
  exact Qr
theorem bd_.mono : ∀ a0 a1 k, LeO (bd_.f k a0 a1) (bd_.f (k + 1) a0 a1) := by
 intro a0 a1 k
 have ih0 := bd_.nd_ k
 unfold bd_.f
 have m0 := rc_.mono
 have m1 := jd_.mono
 exact Qr
set_option maxHeartbeats 8000000 in
set_option maxRecDepth 100000 in
theorem bd_.calls (k : Nat) (a0 : Int) (a1 : Int) (r : Int) (w : World) (h : bd_.f k a0 a1 = some r) :
  Calls Tryz.prog 79 #[.int .i64 a0, .int .i64 a1] w fun e w' => e = .returned (.int .i64 r) ∧ vb_ w w' := by
 have H : ((wd_.f a0).bind fun t103 => (if t103 = true then ((wd_.f a1).bind fun t104 => (if t104 = true then (if a0 = 0 then (bd_.j0 k a0 a1 true) else (bd_.j0 k a0 a1 (a1 == 0))) else (bd_.j0 k a0 a1 true))) else (bd_.j0 k a0 a1 true))) = some r := h
 clear h
 have HC3 := ba_.mk H
 clear H
 go_enter Tryz.func79, Tryz.ntmps79
 go_upto_region 1 with (fail)
 go_cut [20] (fun v20 wc => ∃ (kq : Nat) (x20_2 : Bool), v20 = .bool x20_2 ∧ ba_ (bd_.j0 kq a0 a1 x20_2 = some r) ∧ ba_ (kq ≤ k) ∧ vb_ w wc)
 case first =>
  have H := HC3.out
  clear HC3
  obtain ⟨t103, A4, H⟩ := Qo H
  try dsimp only at H
  by_cases c5 : t103 = true
  rotate_left
  ·replace c5 := Bool.eq_false_iff.mpr c5
   subst c5
   have H1 : (bd_.j0 k a0 a1 true) = some r := by rw [if_neg (show ¬ (false = true) by decide)] at H; exact H
   clear H
   have H := H1
   clear H1
   have H' := ba_.mk H
   clear H
   go_wp2_with (first | ((with_reducible refine va_ (f := 112) rfl ?_); refine lc_ (some 6) rfl rfl Tryz.func112 Qb rfl #[.int .i64 a0] rfl Qm ?_; (with_reducible refine (wd_.calls a0 false _ A4.out).mono ?_); rintro e w' ⟨rfl, ⟨nd, rfl⟩⟩; refine ⟨_, rfl, ?_⟩))
   go_meet
   case rel => exact Yk
  subst c5
  have H1 : ((wd_.f a1).bind fun t104 => (if t104 = true then (if a0 = 0 then (bd_.j0 k a0 a1 true) else (bd_.j0 k a0 a1 (a1 == 0))) else (bd_.j0 k a0 a1 true))) = some r := by rw [if_pos rfl] at H; exact H
  clear H
  have H := H1
  clear H1
  obtain ⟨t104, A6, H⟩ := Qo H
  try dsimp only at H
  by_cases c7 : t104 = true
  rotate_left
  ·replace c7 := Bool.eq_false_iff.mpr c7
   subst c7
   have H1 : (bd_.j0 k a0 a1 true) = some r := by rw [if_neg (show ¬ (false = true) by decide)] at H; exact H
   clear H
   have H := H1
   clear H1
   have H' := ba_.mk H
   clear H
   go_wp2_with (first | ((with_reducible refine va_ (f := 112) rfl ?_); refine lc_ (some 6) rfl rfl Tryz.func112 Qb rfl #[.int .i64 a0] rfl Qm ?_; (with_reducible refine (wd_.calls a0 true _ A4.out).mono ?_); rintro e w' ⟨rfl, ⟨nd, rfl⟩⟩; refine ⟨_, rfl, ?_⟩) | (go_at_call 112; (with_reducible refine (wd_.calls a1 false _ A6.out).mono ?_); rintro e w' ⟨rfl, ⟨nd, rfl⟩⟩))
   go_meet
   case rel => exact Yk
  subst c7
  have H1 : (if a0 = 0 then (bd_.j0 k a0 a1 true) else (bd_.j0 k a0 a1 (a1 == 0))) = some r := by rw [if_pos rfl] at H; exact H
  clear H
  have H := H1
  clear H1
  by_cases c8 : a0 = 0
  rotate_left
  ·rw [if_neg c8] at H
   have c8b0 : (a0 == 0) = false := beq_eq_false_iff_ne.mpr c8
   have c8b1 : (a0 != 0) = true := bne_iff_ne.mpr c8
   (first | rw [c8b0] | (simp only [yb_, ac_]; rw [c8b0]) | skip)
   have H' := ba_.mk H
   clear H
   go_wp2_with (first | ((with_reducible refine va_ (f := 112) rfl ?_); refine lc_ (some 6) rfl rfl Tryz.func112 Qb rfl #[.int .i64 a0] rfl Qm ?_; (with_reducible refine (wd_.calls a0 true _ A4.out).mono ?_); rintro e w' ⟨rfl, ⟨nd, rfl⟩⟩; refine ⟨_, rfl, ?_⟩) | (go_at_call 112; (with_reducible refine (wd_.calls a1 true _ A6.out).mono ?_); rintro e w' ⟨rfl, ⟨nd, rfl⟩⟩))
   go_meet
   case rel => exact ⟨_, ((a1 == 0)), Ql, H', ⟨Xu⟩, Qx⟩
  rw [if_pos c8] at H
  have c8b0 : (a0 == 0) = true := beq_iff_eq.mpr c8
  have c8b1 : (a0 != 0) = false := bne_eq_false_iff_eq.mpr c8
  clear c8
  (first | rw [c8b0] | (simp only [yb_, ac_]; rw [c8b0]) | skip)
  have H' := ba_.mk H
  clear H
  go_wp2_with (first | ((with_reducible refine va_ (f := 112) rfl ?_); refine lc_ (some 6) rfl rfl Tryz.func112 Qb rfl #[.int .i64 a0] rfl Qm ?_; (with_reducible refine (wd_.calls a0 true _ A4.out).mono ?_); rintro e w' ⟨rfl, ⟨nd, rfl⟩⟩; refine ⟨_, rfl, ?_⟩) | (go_at_call 112; (with_reducible refine (wd_.calls a1 true _ A6.out).mono ?_); rintro e w' ⟨rfl, ⟨nd, rfl⟩⟩))
  go_meet
  case rel => exact Yk
 case rest =>
  clear HC3
  try clear c1
  try clear p2
  try clear c5
  try clear c7
  try clear c8
  try clear c8b0
  try clear c8b1
  obtain ⟨kq, x20_2, rfl, HA, HJ2, ⟨mc2, rfl⟩⟩ := hcut
  cases kq with
  | zero => exact absurd HA.out (by simp [bd_.j0])
  | succ kj2 =>
   have H := HA.out
   clear HA
   simp only [bd_.j0] at H
   by_cases c9 : x20_2 = true
   ·subst c9
    have H1 : (some 0) = some r := by rw [if_pos rfl] at H; exact H
    clear H
    have H := H1
    clear H1
    obtain rfl := Option.some.inj H
    go_wp2
    go_ret
    exact ⟨Ql, Qx⟩
   replace c9 := Bool.eq_false_iff.mpr c9
   subst c9
   have H1 : ((jd_.f kj2 a0).bind fun t105 => ((jd_.f kj2 a1).bind fun t106 => ((rc_.f kj2 (wrap64 (t105 + t106))).bind fun t107 => (some t107)))) = some r := by rw [if_neg (show ¬ (false = true) by decide)] at H; exact H
   clear H
   have H := H1
   clear H1
   obtain ⟨t105, A10, H⟩ := Qo H
   try dsimp only at H
   obtain ⟨t106, A11, H⟩ := Qo H
   try dsimp only at H
   obtain ⟨t107, A12, H⟩ := Qo H
   try dsimp only at H
   obtain rfl := Option.some.inj H
   go_wp2_with (first | ((with_reducible refine va_ (f := 113) rfl ?_); refine lc_ (some 22) rfl rfl Tryz.func113 Qb rfl #[.int .i64 a0] rfl Qm ?_; (with_reducible refine (jd_.calls kj2 a0 t105 _ A10.out).mono ?_); rintro e w' ⟨rfl, ⟨nd, rfl⟩⟩; refine ⟨_, rfl, ?_⟩) | ((with_reducible refine va_ (f := 113) rfl ?_); refine lc_ (some 24) rfl rfl Tryz.func113 Qb rfl #[.int .i64 a1] rfl Qm ?_; (with_reducible refine (jd_.calls kj2 a1 t106 _ A11.out).mono ?_); rintro e w' ⟨rfl, ⟨nd, rfl⟩⟩; refine ⟨_, rfl, ?_⟩) | ((with_reducible refine va_ (f := 80) rfl ?_); refine lc_ (some 26) rfl rfl Tryz.func80 Qb rfl #[.int .i64 (wrap64 (t105 + t106))] rfl Qm ?_; (with_reducible refine (rc_.calls kj2 (wrap64 (t105 + t106)) t107 _ A12.out).mono ?_); rintro e w' ⟨rfl, ⟨nd, rfl⟩⟩; refine ⟨_, rfl, ?_⟩))
   go_ret
   exact ⟨Ql, Qx⟩
def wc_.j0 : Nat → Int → Bool → Option (Int)
 | 0, _, _ => none
 | k + 1, x0, x9 => if x9 = true then (some 0) else ((jd_.f k x0).bind fun t109 => ((rc_.f k (wrap64 (-t109))).bind fun t110 => (some t110)))
def wc_.f (k : Nat) (a0 : Int) : Option (Int) := (wd_.f a0).bind fun t108 => (if t108 = true then (wc_.j0 k a0 (a0 == 0)) else (wc_.j0 k a0 true))
theorem wc_.nd_ : ∀ k, (∀ y0 y1, LeO (wc_.j0 k y0 y1) (wc_.j0 (k + 1) y0 y1))
 | 0 => fun _ _ r h => by simp [wc_.j0] at h
 | k + 1 => by
  have ih0 := wc_.nd_ k
  intro y0 y1
  unfold wc_.j0
  have m0 := rc_.mono
  have m1 := jd_.mono
  exact Qr
theorem wc_.mono : ∀ a0 k, LeO (wc_.f k a0) (wc_.f (k + 1) a0) := by
 intro a0 k
 have ih0 := wc_.nd_ k
 unfold wc_.f
 have m0 := rc_.mono
 have m1 := jd_.mono
 exact Qr
set_option maxHeartbeats 8000000 in
set_option maxRecDepth 100000 in
theorem wc_.calls (k : Nat) (a0 : Int) (r : Int) (w : World) (h : wc_.f k a0 = some r) :
  Calls Tryz.prog 158 #[.int .i64 a0] w fun e w' => e = .returned (.int .i64 r) ∧ vb_ w w' := by
 have H : ((wd_.f a0).bind fun t108 => (if t108 = true then (wc_.j0 k a0 (a0 == 0)) else (wc_.j0 k a0 true))) = some r := h
 clear h
 have HC2 := ba_.mk H
 clear H
 go_enter Tryz.func158, Tryz.ntmps158
 go_upto_region 1 with (fail)
 go_cut [9] (fun v9 wc => ∃ (kq : Nat) (x9_1 : Bool), v9 = .bool x9_1 ∧ ba_ (wc_.j0 kq a0 x9_1 = some r) ∧ ba_ (kq ≤ k) ∧ vb_ w wc)
 case first =>
  have H := HC2.out
  clear HC2
  obtain ⟨t108, A3, H⟩ := Qo H
  try dsimp only at H
  by_cases c4 : t108 = true
  ·subst c4
   have H1 : (wc_.j0 k a0 (a0 == 0)) = some r := by rw [if_pos rfl] at H; exact H
   clear H
   have H := H1
   clear H1
   have H' := ba_.mk H
   clear H
   go_wp2_with (first | ((with_reducible refine va_ (f := 112) rfl ?_); refine lc_ (some 4) rfl rfl Tryz.func112 Qb rfl #[.int .i64 a0] rfl Qm ?_; (with_reducible refine (wd_.calls a0 true _ A3.out).mono ?_); rintro e w' ⟨rfl, ⟨nd, rfl⟩⟩; refine ⟨_, rfl, ?_⟩))
   go_meet
   case rel => exact ⟨_, ((a0 == 0)), Ql, H', ⟨Xu⟩, Qx⟩
  replace c4 := Bool.eq_false_iff.mpr c4
  subst c4
  have H1 : (wc_.j0 k a0 true) = some r := by rw [if_neg (show ¬ (false = true) by decide)] at H; exact H
  clear H
  have H := H1
  clear H1
  have H' := ba_.mk H
  clear H
  go_wp2_with (first | ((with_reducible refine va_ (f := 112) rfl ?_); refine lc_ (some 4) rfl rfl Tryz.func112 Qb rfl #[.int .i64 a0] rfl Qm ?_; (with_reducible refine (wd_.calls a0 false _ A3.out).mono ?_); rintro e w' ⟨rfl, ⟨nd, rfl⟩⟩; refine ⟨_, rfl, ?_⟩))
  go_meet
  case rel => exact Yk
 case rest =>
  clear HC2
  try clear c1
  try clear p2
  try clear c4
  obtain ⟨kq, x9_1, rfl, HA, HJ1, ⟨mc1, rfl⟩⟩ := hcut
  cases kq with
  | zero => exact absurd HA.out (by simp [wc_.j0])
  | succ kj1 =>
   have H := HA.out
   clear HA
   simp only [wc_.j0] at H
   by_cases c5 : x9_1 = true
   ·subst c5
    have H1 : (some 0) = some r := by rw [if_pos rfl] at H; exact H
    clear H
    have H := H1
    clear H1
    obtain rfl := Option.some.inj H
    go_wp2
    go_ret
    exact ⟨Ql, Qx⟩
   replace c5 := Bool.eq_false_iff.mpr c5
   subst c5
   have H1 : ((jd_.f kj1 a0).bind fun t109 => ((rc_.f kj1 (wrap64 (-t109))).bind fun t110 => (some t110))) = some r := by rw [if_neg (show ¬ (false = true) by decide)] at H; exact H
   clear H
   have H := H1
   clear H1
   obtain ⟨t109, A6, H⟩ := Qo H
   try dsimp only at H
   obtain ⟨t110, A7, H⟩ := Qo H
   try dsimp only at H
   obtain rfl := Option.some.inj H
   go_wp2_with (first | ((with_reducible refine va_ (f := 113) rfl ?_); refine lc_ (some 11) rfl rfl Tryz.func113 Qb rfl #[.int .i64 a0] rfl Qm ?_; (with_reducible refine (jd_.calls kj1 a0 t109 _ A6.out).mono ?_); rintro e w' ⟨rfl, ⟨nd, rfl⟩⟩; refine ⟨_, rfl, ?_⟩) | ((with_reducible refine va_ (f := 80) rfl ?_); refine lc_ (some 13) rfl rfl Tryz.func80 Qb rfl #[.int .i64 (wrap64 (-t109))] rfl Qm ?_; (with_reducible refine (rc_.calls kj1 (wrap64 (-t109)) t110 _ A7.out).mono ?_); rintro e w' ⟨rfl, ⟨nd, rfl⟩⟩; refine ⟨_, rfl, ?_⟩))
   go_ret
   exact ⟨Ql, Qx⟩
def qk_.f (a0 : Int) (a1 : Int) : Option (Int) := some (Go.bits .xor .i64 a0 a1)
set_option maxHeartbeats 8000000 in
set_option maxRecDepth 100000 in
theorem qk_.calls (a0 : Int) (a1 : Int) (r : Int) (w : World) (h : qk_.f a0 a1 = some r) :
  Calls Tryz.prog 115 #[.int .i64 a0, .int .i64 a1] w fun e w' => e = .returned (.int .i64 r) ∧ vb_ w w' := by
 have H : (some (Go.bits .xor .i64 a0 a1)) = some r := h
 clear h
 obtain rfl := Option.some.inj H
 go_enter Tryz.func115, Tryz.ntmps115
 go_wp2
 go_ret
 exact ⟨Ql, Qx⟩
def pf_.f (k : Nat) (a0 : Int) (a1 : Int) : Option (Int) := (bd_.f k a0 a1).bind fun t111 => (some t111)
theorem pf_.mono : ∀ a0 a1 k, LeO (pf_.f k a0 a1) (pf_.f (k + 1) a0 a1) := by
 intro a0 a1 k
 unfold pf_.f
 have m0 := bd_.mono
 exact Qr
set_option maxHeartbeats 8000000 in
set_option maxRecDepth 100000 in
theorem pf_.calls (k : Nat) (a0 : Int) (a1 : Int) (r : Int) (w : World) (h : pf_.f k a0 a1 = some r) :
  Calls Tryz.prog 116 #[.int .i64 a0, .int .i64 a1] w fun e w' => e = .returned (.int .i64 r) ∧ vb_ w w' := by
 have H : ((bd_.f k a0 a1).bind fun t111 => (some t111)) = some r := h
 clear h
 obtain ⟨t111, A3, H⟩ := Qo H
 try dsimp only at H
 obtain rfl := Option.some.inj H
 go_enter Tryz.func116, Tryz.ntmps116
 go_wp2_with (first | ((with_reducible refine va_ (f := 79) rfl ?_); refine lc_ (some 7) rfl rfl Tryz.func79 Qb rfl #[.int .i64 a0, .int .i64 a1] rfl Qm ?_; (with_reducible refine (bd_.calls k a0 a1 t111 _ A3.out).mono ?_); rintro e w' ⟨rfl, ⟨nd, rfl⟩⟩; refine ⟨_, rfl, ?_⟩))
 go_ret
 exact ⟨Ql, Qx⟩
def ef_.f (k : Nat) (a0 : Int) : Option (Int) := (wc_.f k a0).bind fun t112 => (some t112)
theorem ef_.mono : ∀ a0 k, LeO (ef_.f k a0) (ef_.f (k + 1) a0) := by
 intro a0 k
 unfold ef_.f
 have m0 := wc_.mono
 exact Qr
set_option maxHeartbeats 8000000 in
set_option maxRecDepth 100000 in
theorem ef_.calls (k : Nat) (a0 : Int) (r : Int) (w : World) (h : ef_.f k a0 = some r) :
  Calls Tryz.prog 157 #[.int .i64 a0] w fun e w' => e = .returned (.int .i64 r) ∧ vb_ w w' := by
 have H : ((wc_.f k a0).bind fun t112 => (some t112)) = some r := h
 clear h
 obtain ⟨t112, A2, H⟩ := Qo H
 try dsimp only at H
 obtain rfl := Option.some.inj H
 go_enter Tryz.func157, Tryz.ntmps157
 go_wp2_with (first | ((with_reducible refine va_ (f := 158) rfl ?_); refine lc_ (some 4) rfl rfl Tryz.func158 Qb rfl #[.int .i64 a0] rfl Qm ?_; (with_reducible refine (wc_.calls k a0 t112 _ A2.out).mono ?_); rintro e w' ⟨rfl, ⟨nd, rfl⟩⟩; refine ⟨_, rfl, ?_⟩))
 go_ret
 exact ⟨Ql, Qx⟩
def dj_.f (k : Nat) (l0 : List Int) (a1 : Int) (a2 : Int) : Option (Int) := (rc_.f k (wrap64 (a2 * (wrap64 ((wrap64 ((l0.length : Int) - 1)) - a1))))).bind fun t113 => (some t113)
theorem dj_.mono : ∀ a0 a1 a2 k, LeO (dj_.f k a0 a1 a2) (dj_.f (k + 1) a0 a1 a2) := by
 intro a0 a1 a2 k
 unfold dj_.f
 have m0 := rc_.mono
 exact Qr
set_option maxHeartbeats 8000000 in
set_option maxRecDepth 100000 in
theorem dj_.calls (k : Nat) (A0 : Option Addr) (c0 : Nat) (l0 : List Int) (a1 : Int) (a2 : Int) (r : Int) (w : World) (hr0 : Kd.C (Kd.int .i64) w A0 l0.length l0) (hc0 : l0.length ≤ c0) (h : dj_.f k l0 a1 a2 = some r) :
  Calls Tryz.prog 95 #[.slice A0 l0.length c0, .int .i64 a1, .int .i64 a2] w fun e w' => e = .returned (.int .i64 r) ∧ vb_ w w' := by
 have HR0 := ba_.mk hr0
 have HC0 := ba_.mk hc0
 clear hr0 hc0
 have H : ((rc_.f k (wrap64 (a2 * (wrap64 ((wrap64 ((l0.length : Int) - 1)) - a1))))).bind fun t113 => (some t113)) = some r := h
 clear h
 obtain ⟨t113, A4, H⟩ := Qo H
 try dsimp only at H
 obtain rfl := Option.some.inj H
 go_enter Tryz.func95, Tryz.ntmps95
 go_wp2_with (first | ((with_reducible refine va_ (f := 80) rfl ?_); refine lc_ (some 14) rfl rfl Tryz.func80 Qb rfl #[.int .i64 (wrap64 (a2 * (wrap64 ((wrap64 ((l0.length : Int) - 1)) - a1))))] rfl Qm ?_; (with_reducible refine (rc_.calls k (wrap64 (a2 * (wrap64 ((wrap64 ((l0.length : Int) - 1)) - a1)))) t113 _ A4.out).mono ?_); rintro e w' ⟨rfl, ⟨nd, rfl⟩⟩; refine ⟨_, rfl, ?_⟩))
 go_ret
 exact ⟨Ql, Qx⟩
end Go.Proofs.YtpkhgapifnjbeaaGreatDoor.B
end
section
namespace Go.Proofs.YtpkhgapifnjbeaaGreatDoor.B
open RowKit Zw.PrintWords Zw.PrintLast Zw.PrintMore
attribute [local go_sem] pd_ rd_ yd_ zd_ dd_ ed_ qd_ sd_
end Go.Proofs.YtpkhgapifnjbeaaGreatDoor.B
end
section
namespace Go.Proofs.YtpkhgapifnjbeaaGreatDoor.B
open RowKit Zw.PrintWords Zw.PrintLast Zw.PrintMore
attribute [local go_sem] pd_ rd_ yd_ zd_ dd_ ed_ qd_ sd_
end Go.Proofs.YtpkhgapifnjbeaaGreatDoor.B
end
section
namespace Go.Proofs.YtpkhgapifnjbeaaGreatDoor.Rs
def GF := Fin 32
namespace GF
def mulN (a b : Nat) : Nat :=
 let p := (if b &&& 1 = 0 then 0 else a) ^^^ (if b &&& 2 = 0 then 0 else 2 * a) ^^^ (if b &&& 4 = 0 then 0 else 4 * a) ^^^ (if b &&& 8 = 0 then 0 else 8 * a) ^^^ (if b &&& 16 = 0 then 0 else 16 * a)
 let p := if p &&& 256 = 0 then p else p ^^^ 296
 let p := if p &&& 128 = 0 then p else p ^^^ 148
 let p := if p &&& 64 = 0 then p else p ^^^ 74
 let p := if p &&& 32 = 0 then p else p ^^^ 37
 p % 32
instance : DecidableEq GF := inferInstanceAs (DecidableEq (Fin 32))
instance : Add GF := ⟨fun a b => ⟨(a.1 ^^^ b.1) % 32, Nat.mod_lt _ Qc⟩⟩
instance : Mul GF := ⟨fun a b => ⟨mulN a.1 b.1 % 32, Nat.mod_lt _ Qc⟩⟩
instance : OfNat GF 0 := ⟨⟨0, Qc⟩⟩
instance : OfNat GF 1 := ⟨⟨1, Qc⟩⟩
instance (p : GF → Prop) [h : DecidablePred p] : Decidable (∀ a, p a) := @Nat.decidableForallFin 32 p h
theorem add_comm : ∀ a b : GF, a + b = b + a := by decide +kernel
theorem mul_comm : ∀ a b : GF, a * b = b * a := by decide +kernel
theorem add_assoc : ∀ a b c : GF, a + b + c = a + (b + c) := by decide +kernel
theorem mul_assoc : ∀ a b c : GF, a * b * c = a * (b * c) := by decide +kernel
theorem mul_add : ∀ a b c : GF, a * (b + c) = a * b + a * c := by decide +kernel
theorem gi_ : ∀ a : GF, a + a = 0 := by decide +kernel
theorem add_zero : ∀ a : GF, a + 0 = a := by decide +kernel
theorem zero_add : ∀ a : GF, 0 + a = a := by decide +kernel
theorem mul_one : ∀ a : GF, a * 1 = a := by decide +kernel
theorem one_mul : ∀ a : GF, 1 * a = a := by decide +kernel
theorem mul_zero : ∀ a : GF, a * 0 = 0 := by decide +kernel
theorem zero_mul : ∀ a : GF, 0 * a = 0 := by decide +kernel
def sq (a : GF) : GF := a * a
def inv (a : GF) : GF := sq a * sq (sq a) * sq (sq (sq a)) * sq (sq (sq (sq a)))
theorem qd1_ : ∀ a : GF, a ≠ 0 → a * inv a = 1 := by decide +kernel
theorem add_mul (a b c : GF) : (a + b) * c = a * c + b * c := by rw [mul_comm, mul_add, mul_comm c a, mul_comm c b]
theorem mul_eq_zero : ∀ a b : GF, a * b = 0 → a = 0 ∨ b = 0 := by decide +kernel
theorem mul_ne_zero {a b : GF} (ha : a ≠ 0) (hb : b ≠ 0) : a * b ≠ 0 := fun h => (mul_eq_zero a b h).elim ha hb
theorem one_ne_zero : (1 : GF) ≠ 0 := by decide
theorem aj_ {a b : GF} (h : a + b = 0) : a = b := by
 have : a + b + b = 0 + b := by rw [h]
 rwa [add_assoc, gi_, add_zero, zero_add] at this
instance : Std.Associative (α := GF) (· + ·) := ⟨add_assoc⟩
instance : Std.Commutative (α := GF) (· + ·) := ⟨add_comm⟩
instance : Std.Associative (α := GF) (· * ·) := ⟨mul_assoc⟩
instance : Std.Commutative (α := GF) (· * ·) := ⟨mul_comm⟩
def pw (x : GF) : Nat → GF
 | 0 => 1
 | n + 1 => pw x n * x
theorem ps_ (x : GF) (a b : Nat) : pw x (a + b) = pw x a * pw x b := by
 induction b with
 | zero => simp [pw, mul_one]
 | succ b ih => rw [← Nat.add_assoc]; simp only [pw, ih]; ac_rfl
theorem pw_mul (x : GF) (a b : Nat) : pw x (a * b) = pw (pw x a) b := by
 induction b with
 | zero => simp [pw]
 | succ b ih => rw [Nat.mul_succ, ps_, ih]; rfl
theorem ei1_ (x y : GF) (a : Nat) : pw (x * y) a = pw x a * pw y a := by
 induction a with
 | zero => simp [pw, mul_one]
 | succ b ih => simp only [pw, ih]; ac_rfl
theorem oo_ {x : GF} (h : x ≠ 0) (a : Nat) : pw x a ≠ 0 := by
 induction a with
 | zero => exact one_ne_zero
 | succ b ih => exact mul_ne_zero ih h
def al : GF := ⟨2, Qc⟩
def ex (n : Nat) : GF := pw al n
theorem ex_31 : ex 31 = 1 := by decide +kernel
theorem ls_ (n : Nat) : ex n ≠ 0 := oo_ Qc n
theorem sc1_ (a b : Nat) : ex (a + b) = ex a * ex b := ps_ _ _ _
theorem tc1_ (a b : Nat) : ex (a * b) = pw (ex a) b := pw_mul _ _ _
theorem rv_ (n : Nat) : pw 1 n = 1 := by
 induction n with
 | zero => rfl
 | succ n ih => simp only [pw, ih, mul_one]
theorem wu_ (n : Nat) : ex n = ex (n % 31) := by
 conv => lhs; rw [← Nat.div_add_mod n 31]
 rw [sc1_, tc1_, ex_31, rv_, one_mul]
theorem ca1_ : ∀ a : Fin 31, ∀ b : Fin 31, ex a = ex b → a = b := by decide +kernel
theorem ai1_ {a b : Nat} (ha : a < 31) (hb : b < 31) (h : ex a = ex b) : a = b := by
 have := ca1_ ⟨a, ha⟩ ⟨b, hb⟩ h
 simpa using this
end GF
def toG (x : Int) : GF := ⟨x.toNat % 32, Nat.mod_lt _ Qc⟩
def ofG (a : GF) : Int := (a.1 : Nat)
def isEl (x : Int) : Bool := decide (0 ≤ x) && decide (x < 32)
def mulI (a b : Int) : Int := if isEl a && isEl b then ofG (toG a * toG b) else 0
def powI (n : Int) : Int := ofG (GF.ex (n % 31).toNat)
def invI (a : Int) : Int := if isEl a then ofG (GF.inv (toG a)) else 0
theorem ofG_lt (a : GF) : 0 ≤ ofG a ∧ ofG a < 32 := ⟨Int.natCast_nonneg _, by have := a.2; unfold ofG; omega⟩
theorem th_ (a : GF) : toG (ofG a) = a := by
 apply Fin.ext
 show (ofG a).toNat % 32 = a.1
 have := a.2
 unfold ofG
 omega
theorem bi_ {x : Int} (h0 : 0 ≤ x) (h : x < 32) : ofG (toG x) = x := by
 show ((x.toNat % 32 : Nat) : Int) = x
 omega
theorem kh_ (a : GF) : isEl (ofG a) = true := by
 have := ofG_lt a
 simp [isEl, this.1, this.2]
theorem le_ (x : Int) : isEl x = true ↔ 0 ≤ x ∧ x < 32 := by simp [isEl]
theorem hk1_ {a b : GF} (h : ofG a = ofG b) : a = b := by rw [← th_ a, ← th_ b, h]
theorem yt_ (a b : GF) : mulI (ofG a) (ofG b) = ofG (a * b) := by simp [mulI, kh_, th_]
theorem xt_ {a b : Int} (ha : isEl a = true) (hb : isEl b = true) : mulI a b = ofG (toG a * toG b) := by simp [mulI, ha, hb]
theorem qp_ : ofG 0 = 0 := rfl
theorem cn_ {a : GF} : ofG a = 0 ↔ a = 0 := ⟨fun h => hk1_ (h.trans qp_.symm), fun h => by rw [h]; rfl⟩
theorem zl_ (a b : Int) : isEl (mulI a b) = true := by
 unfold mulI
 split
 ·exact kh_ _
 ·decide
theorem fd1_ (n : Int) : isEl (powI n) = true := kh_ _
theorem ed1_ (a : Int) : isEl (invI a) = true := by
 unfold invI
 split
 ·exact kh_ _
 ·decide
end Go.Proofs.YtpkhgapifnjbeaaGreatDoor.Rs
end
section
namespace Go.Proofs.YtpkhgapifnjbeaaGreatDoor.G
open RowKit Zw.PrintWords Zw.PrintLast Zw.PrintMore Rs B
set_option maxRecDepth 100000
def xorI (a b : Int) : Int := Go.bits .xor .i64 a b
theorem gl1_ : ∀ a b : Fin 32, Go.bits .xor .i64 (a.1 : Int) (b.1 : Int) = ofG ((show GF from a) + (show GF from b)) := by decide +kernel
theorem fm_ (a b : GF) : xorI (ofG a) (ofG b) = ofG (a + b) := gl1_ a b
theorem wx_ {a b : Int} (ha : isEl a = true) (hb : isEl b = true) : xorI a b = ofG (toG a + toG b) := by
 have h1 := (le_ a).1 ha
 have h2 := (le_ b).1 hb
 rw [← fm_, bi_ h1.1 h1.2, bi_ h2.1 h2.2]
theorem ok1_ : ∀ m : Fin 31, rc_.l0 40 1 (m.1 : Int) 0 = some (ofG (GF.ex m.1)) := by decide +kernel
theorem tmod31 (n : Int) : Int.tmod (wrap64 (Int.tmod n 31 + 31)) 31 = n % 31 := by
 have h1 : n.tmod 31 < 31 := Int.tmod_lt_of_pos n Qc
 have h2 : -31 < n.tmod 31 := by
  have := Int.natAbs_tmod n 31
  have : (n.tmod 31).natAbs < 31 := by rw [this]; exact Nat.mod_lt _ Qc
  omega
 have h3 : wrap64 (Int.tmod n 31 + 31) = Int.tmod n 31 + 31 := by unfold wrap64; omega
 rw [h3, Int.tmod_eq_emod_of_nonneg Qa]
 have := Int.emod_def n 31
 have := Int.tmod_def n 31
 omega
theorem au_ (n : Int) : rc_.f 40 n = some (powI n) := by
 unfold rc_.f powI
 rw [tmod31]
 have h1 : 0 ≤ n % 31 := Int.emod_nonneg _ Qc
 have h2 : n % 31 < 31 := Int.emod_lt_of_pos _ Qc
 have := ok1_ ⟨(n % 31).toNat, Qa⟩
 rw [show (((n % 31).toNat : Nat) : Int) = n % 31 from by omega] at this
 exact this
def logN (a : GF) : Nat := ((List.range 31).find? (fun i => GF.ex i = a)).getD 0
theorem bk1_ : ∀ a : GF, jd_.f 40 (ofG a) = some (logN a : Int) := by decide +kernel
theorem di1_ : ∀ a : GF, a ≠ 0 → GF.ex (logN a) = a := by decide +kernel
theorem ld1_ : ∀ a : GF, logN a < 31 := by decide +kernel
theorem qk1_ (a b : GF) (ha : a ≠ 0) (hb : b ≠ 0) : powI ((logN a : Int) + logN b) = ofG (a * b) := by
 unfold powI
 rw [show (((logN a : Int) + logN b) % 31).toNat = (logN a + logN b) % 31 from by omega, ← GF.wu_, GF.sc1_, di1_ a ha, di1_ b hb]
theorem pk1_ : ∀ a : GF, a ≠ 0 → powI (-(logN a : Int)) = ofG (GF.inv a) := by decide +kernel
theorem lq_ (a : Int) : wd_.f a = some (isEl a) := by
 unfold wd_.f isEl
 by_cases h : 0 ≤ a <;> simp [h]
theorem log_f (a : Int) (h : isEl a = true) : jd_.f 40 a = some (logN (toG a) : Int) := by
 have h1 := (le_ a).1 h
 have := bk1_ (toG a)
 rwa [bi_ h1.1 h1.2] at this
theorem pz_ {a : Int} (h : isEl a = true) (h0 : a ≠ 0) : toG a ≠ 0 := fun e => by
 have h1 := (le_ a).1 h
 have h2 := bi_ h1.1 h1.2
 rw [e] at h2
 exact h0 h2.symm
theorem dl_ (b : Int) : mulI 0 b = 0 := by
 unfold mulI
 split
 ·rw [show toG 0 = 0 from rfl, GF.zero_mul]; rfl
 ·rfl
theorem ka1_ (b : Int) : mulI b 0 = 0 := by
 unfold mulI
 split
 ·rw [show toG 0 = 0 from rfl, GF.mul_zero]; rfl
 ·rfl
theorem gk1_ (k : Nat) (hl : ∀ a, isEl a = true → jd_.f k a = some (logN (toG a) : Int)) (hp : ∀ n, rc_.f k n = some (powI n)) (a b : Int) : bd_.f (k + 1) a b = some (mulI a b) := by
 unfold bd_.f
 rw [lq_]
 simp only [Option.bind_some]
 by_cases ha : isEl a = true
 rotate_left
 ·rw [if_neg ha]
  simp [bd_.j0, mulI, ha]
 rw [if_pos ha, lq_]
 simp only [Option.bind_some]
 by_cases hb : isEl b = true
 rotate_left
 ·rw [if_neg hb]
  simp [bd_.j0, mulI, hb]
 rw [if_pos hb]
 by_cases h0 : a = 0
 ·subst h0
  rw [if_pos rfl]
  simp [bd_.j0, dl_]
 rw [if_neg h0]
 by_cases h1 : b = 0
 ·subst h1
  simp [bd_.j0, ka1_]
 have e : (b == 0) = false := by simpa using h1
 have la := ld1_ (toG a)
 have lb := ld1_ (toG b)
 rw [e]
 simp only [bd_.j0]
 rw [if_neg Qc, hl a ha, hl b hb]
 simp only [Option.bind_some]
 rw [hp]
 simp only [Option.bind_some]
 rw [show wrap64 ((logN (toG a) : Int) + logN (toG b)) = (logN (toG a) : Int) + logN (toG b) from by unfold wrap64; omega, qk1_ _ _ (pz_ ha h0) (pz_ hb h1), xt_ ha hb]
theorem mul_f (a b : Int) : bd_.f 41 a b = some (mulI a b) := gk1_ 40 log_f au_ a b
theorem bx_ (k : Nat) (hl : ∀ a, isEl a = true → jd_.f k a = some (logN (toG a) : Int)) (hp : ∀ n, rc_.f k n = some (powI n)) (a : Int) : wc_.f (k + 1) a = some (invI a) := by
 unfold wc_.f
 rw [lq_]
 simp only [Option.bind_some]
 by_cases ha : isEl a = true
 rotate_left
 ·rw [if_neg ha]
  simp [wc_.j0, invI, ha]
 rw [if_pos ha]
 by_cases h0 : a = 0
 ·subst h0
  rfl
 have e : (a == 0) = false := by simpa using h0
 have la := ld1_ (toG a)
 rw [e]
 simp only [wc_.j0]
 rw [if_neg Qc, hl a ha]
 simp only [Option.bind_some]
 rw [hp]
 simp only [Option.bind_some]
 rw [show wrap64 (-(logN (toG a) : Int)) = -(logN (toG a) : Int) from by unfold wrap64; omega, pk1_ _ (pz_ ha h0)]
 simp [invI, ha]
theorem fv_ (a : Int) : wc_.f 41 a = some (invI a) := bx_ 40 log_f au_ a
end Go.Proofs.YtpkhgapifnjbeaaGreatDoor.G
end
section
namespace Go.Proofs.YtpkhgapifnjbeaaGreatDoor.G
open RowKit Zw.PrintWords Zw.PrintLast Zw.PrintMore Rs B
set_option maxRecDepth 100000
def zw_.f (a b : Int) : Option Int := some (mulI a b)
theorem zw_.calls (a0 a1 r : Int) (w : World) (h : zw_.f a0 a1 = some r) :
  Calls Tryz.prog 79 #[.int .i64 a0, .int .i64 a1] w fun e w' => e = .returned (.int .i64 r) ∧ vb_ w w' := bd_.calls 41 a0 a1 r w ((mul_f a0 a1).trans h)
def mo_.f (n : Int) : Option Int := some (powI n)
theorem mo_.calls (a0 r : Int) (w : World) (h : mo_.f a0 = some r) :
  Calls Tryz.prog 80 #[.int .i64 a0] w fun e w' => e = .returned (.int .i64 r) ∧ vb_ w w' := rc_.calls 40 a0 r w ((au_ a0).trans h)
def ii_.f (a b : Int) : Option Int := some (xorI a b)
theorem ii_.calls (a0 a1 r : Int) (w : World) (h : ii_.f a0 a1 = some r) :
  Calls Tryz.prog 115 #[.int .i64 a0, .int .i64 a1] w fun e w' => e = .returned (.int .i64 r) ∧ vb_ w w' := qk_.calls a0 a1 r w h
def ch_.f (a b : Int) : Option Int := some (mulI a b)
theorem ch_.calls (a0 a1 r : Int) (w : World) (h : ch_.f a0 a1 = some r) :
  Calls Tryz.prog 116 #[.int .i64 a0, .int .i64 a1] w fun e w' => e = .returned (.int .i64 r) ∧ vb_ w w' :=
 pf_.calls 41 a0 a1 r w (by unfold pf_.f; rw [mul_f]; exact h)
def sq_.f (a : Int) : Option Int := some (invI a)
theorem sq_.calls (a0 r : Int) (w : World) (h : sq_.f a0 = some r) :
  Calls Tryz.prog 157 #[.int .i64 a0] w fun e w' => e = .returned (.int .i64 r) ∧ vb_ w w' :=
 ef_.calls 41 a0 r w (by unfold ef_.f; rw [fv_]; exact h)
def atI (len : Nat) (place n : Int) : Int := powI (wrap64 (n * wrap64 (wrap64 ((len : Int) - 1) - place)))
def g_at.f (l0 : List Int) (a1 a2 : Int) : Option Int := some (atI l0.length a1 a2)
theorem g_at.calls (A0 : Option Addr) (c0 : Nat) (l0 : List Int) (a1 a2 r : Int) (w : World) (hr0 : Kd.C (Kd.int .i64) w A0 l0.length l0) (hc0 : l0.length ≤ c0) (h : g_at.f l0 a1 a2 = some r) :
  Calls Tryz.prog 95 #[.slice A0 l0.length c0, .int .i64 a1, .int .i64 a2] w fun e w' => e = .returned (.int .i64 r) ∧ vb_ w w' :=
 dj_.calls 40 A0 c0 l0 a1 a2 r w hr0 hc0 (by unfold dj_.f; rw [au_]; exact h)
end Go.Proofs.YtpkhgapifnjbeaaGreatDoor.G
end
section
namespace Go.Proofs.YtpkhgapifnjbeaaGreatDoor.G
open RowKit Zw.PrintWords Zw.PrintLast Zw.PrintMore
theorem xh1_ {W : World} {e g base : Nat} {ok : Nat → Prop} (xs : List Int) (hg : W.heap[g]? = some (.cells (nums .i64 xs).toArray e (0, 0))) (hb : base ≤ g) (hok : ok g) (hm : xs.length ≤ 1000) :
  Kd.R (Kd.int .i64) e W base ok (.slice (some ⟨g, 0, none⟩) xs.length xs.length) xs := by
 refine Kd.lp_ ⟨by simp [encs], .inr ⟨g, xs.length, _, rfl, hb, hg, Nat.le_refl _, by unfold maxLen; omega, by simp [nums], ?_⟩⟩ (fun k hk => by simp [Value.ownBlock] at hk; exact hk ▸ hok)
 rw [Nat.mul_one]
 exact List.take_of_length_le (by simp [nums])
theorem dq_ {W : World} {e g base n : Nat} {ok : Nat → Prop} {xs : List Int} (h : Kd.R (Kd.int .i64) e W base ok (.slice (some ⟨g, 0, none⟩) n n) xs) (hn : 0 < n) :
  W.heap[g]? = some (.cells (nums .i64 xs).toArray e (0, 0)) ∧ xs.length = n := by
 have hl : xs.length = n := by
  obtain ⟨A, c, he⟩ := Kd.td_ h
  injection he with _ h2 _
  exact h2.symm
 subst hl
 have ho := (Kd.wn_ h).2
 rcases ho with ⟨he, _⟩ | ⟨g', cap, cur, he, hb, hg, h1, h2, h3, h4⟩
 ·injection he with h5 _ _
  cases h5
 injection he with h5 h6 h7
 injection h5 with h5
 injection h5 with h5 _ _
 subst h5
 subst h7
 refine ⟨?_, rfl⟩
 rw [hg]
 congr 2
 apply Array.ext'
 rw [← show encs (Value.int .i64) xs = nums .i64 xs from rfl, ← h4]
 show cur.toList = _
 simp only [List.toList_toArray]
 rw [List.take_of_length_le]
 simp; omega
end Go.Proofs.YtpkhgapifnjbeaaGreatDoor.G
end
section
namespace Go.Proofs.YtpkhgapifnjbeaaGreatDoor.S
open RowKit G Zw.PrintWords Zw.PrintLast Zw.PrintMore
attribute [local go_sem] pd_ rd_ yd_ zd_ dd_ ed_ qd_ sd_
end Go.Proofs.YtpkhgapifnjbeaaGreatDoor.S
end
section
namespace Go.Proofs.YtpkhgapifnjbeaaGreatDoor.S
open RowKit G Zw.PrintWords Zw.PrintLast Zw.PrintMore
attribute [local go_sem] pd_ rd_ yd_ zd_ dd_ ed_ qd_ sd_
mutual
def xb_.l0 : Nat → List Int → List Int → List Int → Int → Int → Option (List Int)
 | 0, _, _, _, _, _ => none
 | k + 1, x0, x3, x7, x8, x9 => if x9 < x8 then (if 0 ≤ x9 then (if x9 < (x7.length : Int) then (xb_.l1 k x0 x3 x9 (rd x7 x9) x7 x8 x9 0) else (none)) else (none)) else (some x3)
def xb_.l1 : Nat → List Int → List Int → Int → Int → List Int → Int → Int → Int → Option (List Int)
 | 0, _, _, _, _, _, _, _, _ => none
 | k + 1, x0, x3, x4, x5, x7, x8, x9, x14 => if x14 < 6 then (if 0 ≤ x14 then (if x14 < (x3.length : Int) then ((mo_.f (wrap64 ((wrap64 (x14 + 1)) * (wrap64 ((wrap64 ((x0.length : Int) - 1)) - x4))))).bind fun t107 => ((zw_.f (mx x5 0) t107).bind fun t108 => (xb_.l1 k x0 (x3.set (x14 : Int).toNat (Go.bits .xor .i64 (rd x3 x14) t108)) x4 x5 x7 x8 x9 (wrap64 (x14 + 1))))) else (none)) else (none)) else (xb_.l0 k x0 x3 x7 x8 (wrap64 (x9 + 1)))
end
def xb_.f (k : Nat) (l0 : List Int) : Option (List Int) := if 6 ≤ 35184372088832 then (xb_.l0 k l0 (List.replicate 6 0) l0 (l0.length : Int) 0) else (none)
theorem xb_.nd_ : ∀ k, (∀ y0 y1 y2 y3 y4, LeO (xb_.l0 k y0 y1 y2 y3 y4) (xb_.l0 (k + 1) y0 y1 y2 y3 y4)) ∧ (∀ y0 y1 y2 y3 y4 y5 y6 y7, LeO (xb_.l1 k y0 y1 y2 y3 y4 y5 y6 y7) (xb_.l1 (k + 1) y0 y1 y2 y3 y4 y5 y6 y7))
 | 0 => ⟨fun _ _ _ _ _ r h => by simp [xb_.l0] at h, fun _ _ _ _ _ _ _ _ r h => by simp [xb_.l1] at h⟩
 | k + 1 => by
  obtain ⟨ih0, ih1⟩ := xb_.nd_ k
  refine ⟨?_, ?_⟩
  ·intro y0 y1 y2 y3 y4
   unfold xb_.l0
   exact Qr
  intro y0 y1 y2 y3 y4 y5 y6 y7
  unfold xb_.l1
  exact Qr
theorem xb_.mono : ∀ a0 k, LeO (xb_.f k a0) (xb_.f (k + 1) a0) := by
 intro a0 k
 obtain ⟨ih0, ih1⟩ := xb_.nd_ k
 unfold xb_.f
 exact Qr
def xb_.T8 : Bool × List (List Nat × List Nat) := (true, [([], []), ([0], [0]), ([1], [1]), ([], []), ([3], [3]), ([], []), ([5], [5]), ([], []), ([7], [7]), ([8], [8]), ([], []), ([9, 10], [9, 10]), ([6, 11], [6, 11]), ([12], [12]), ([4, 13, 13], [4, 13]), ([2, 14], [2, 14]), ([0, 0, 1, 2, 3, 4, 5, 6, 7, 8, 9, 10, 11, 12, 13, 14, 15], [0]), ([16, 15, 14, 0, 1, 2, 3, 4, 5, 6, 7, 8, 9, 10, 11, 12, 13, 14, 15], [15, 16])])
def xb_.B8 : List Nat := [0, 1, 3, 0, 8, 0, 32, 0, 128, 384, 0, 1920, 4064, 8160, 16376, 32767, 65535, 131071]
theorem xb_.tab8 : rtab .any (opsOf Tryz.f45 8) = xb_.T8 := by kernel_rfl
theorem xb_.ye1_ : ni_ xb_.T8.2 xb_.B8 = true := by kernel_rfl
set_option maxHeartbeats 8000000 in
set_option maxRecDepth 100000 in
theorem xb_.calls (k : Nat) (A0 : Option Addr) (c0 : Nat) (l0 : List Int) (r : List Int) (w : World) (hr0 : Kd.C (Kd.int .i64) w A0 l0.length l0) (hc0 : l0.length ≤ c0) (h : xb_.f k l0 = some r) :
  Calls Tryz.prog 45 #[.slice A0 l0.length c0] w fun e w' => e = .returned (.agg (nums .i64 r).toArray) ∧ Below w.heap.size w w' := by
 have HR0 := ba_.mk hr0
 have HC0 := ba_.mk hc0
 clear hr0 hc0
 have HB := ba_.mk (Below.refl w.heap.size w)
 have H : (if 6 ≤ 35184372088832 then (xb_.l0 k l0 (List.replicate 6 0) l0 (l0.length : Int) 0) else (none)) = some r := h
 clear h
 obtain ⟨c2, H⟩ := Qq H
 have c2b0 := eq_true c2
 have c2b1 := decide_eq_true c2
 clear c2
 obtain ⟨y102, hy102⟩ : ∃ y_ : List Int, y_ = (List.replicate 6 0) := ⟨_, rfl⟩
 replace H : (xb_.l0 k l0 y102 l0 (l0.length : Int) 0) = some r := by first | (rw [hy102]; with_reducible exact H) | (have H2_ := (Option.bind_some _ _).symm.trans H; rw [hy102]; with_reducible exact H2_) | (have H2_ := (Option.bind_some _ _).symm.trans H; with_reducible exact H2_) | with_reducible exact H | (rw [hy102]; exact H) | exact H
 have Ny102 := ba_.mk hy102
 clear hy102
 have H' := ba_.mk H
 clear H
 go_enter Tryz.func45, Tryz.ntmps45
 go_wp2
 have n0_ := ba_.mk (show Kd.R (Kd.int .i64) 88 ((w.alloc (.cells #[.int .i64 0, .int .i64 0, .int .i64 0, .int .i64 0, .int .i64 0, .int .i64 0] 88)).alloc (.cells #[.int .i64 0, .int .i64 0, .int .i64 0, .int .i64 0, .int .i64 0, .int .i64 0] 88)) w.heap.size (fun k_ => k_ ≠ w.heap.size) (.slice (some ⟨w.heap.size + 1, 0, none⟩) 6 6) y102 from by rw [Ny102.out]; exact xh1_ (List.replicate 6 0) (heap_alloc2_new w _ _) Qa Qa Qc)
 have HZ := ba_.mk (show ((w.alloc (.cells #[.int .i64 0, .int .i64 0, .int .i64 0, .int .i64 0, .int .i64 0, .int .i64 0] 88)).alloc (.cells #[.int .i64 0, .int .i64 0, .int .i64 0, .int .i64 0, .int .i64 0, .int .i64 0] 88)).heap[w.heap.size]? = some (.cells #[.int .i64 0, .int .i64 0, .int .i64 0, .int .i64 0, .int .i64 0, .int .i64 0] 88 (0, 0)) from heap_alloc2_old w _ _)
 have HO104 := n0_
 clear n0_
 go_loopg [9] k (fun kq v9 w' => ∃ (x3_1 : List Int) (x9_1 : Int), v9 = .int .i64 x9_1 ∧ ba_ (xb_.l0 kq l0 x3_1 l0 (l0.length : Int) x9_1 = some r) ∧ ba_ (kq ≤ k) ∧ ba_ (Kd.R (Kd.int .i64) 88 w' w.heap.size (fun k_ => k_ ≠ w.heap.size) (.slice (some ⟨w.heap.size + 1, 0, none⟩) 6 6) x3_1) ∧ ba_ (w'.heap[w.heap.size]? = some (.cells #[.int .i64 0, .int .i64 0, .int .i64 0, .int .i64 0, .int .i64 0, .int .i64 0] 88 (0, 0))) ∧ ba_ (Below w.heap.size w w'))
 case atStart => exact ⟨(y102), (0), Ql, H', ⟨Nat.le_refl _⟩, ⟨HO104.out⟩, ⟨Y5⟩, ⟨Qh⟩⟩
 case round =>
  clear H'
  try clear c2
  try clear c2b0
  try clear c2b1
  try clear p2
  try clear c4
  obtain ⟨x3_1, x9_1, rfl, HA, HK1, HO_3, HZ, HB⟩ := hrel
  cases gk with
  | zero => exact absurd HA.out (by simp [xb_.l0])
  | succ k1 =>
   have H := HA.out
   clear HA
   simp only [xb_.l0] at H
   by_cases c5 : x9_1 < (l0.length : Int)
   rotate_left
   ·rw [if_neg c5] at H
    have c5b0 := decide_eq_false c5
    clear c5
    have HR9 := ba_.mk (Option.some.inj H)
    clear H
    have HB3 := ba_.mk (dq_ HO_3.out Qc).1
    have HL3 := ba_.mk (dq_ HO_3.out Qc).2
    have HS3 := ba_.mk (show (Tryz.prog.info? 88).map (·.size) = some (nums .i64 x3_1).toArray.size from by rw [show (nums .i64 x3_1).toArray.size = 6 from by simp [nums, HL3.out]]; kernel_rfl)
    have HT3 := ba_.mk (show (6 : Nat) = (nums .i64 x3_1).toArray.size from by simp [nums, HL3.out])
    have HU3 := ba_.mk (show (nums .i64 x3_1).toArray.all (·.oneCell') = true from by simp [nums, Value.oneCell'])
    go_wp2_with (first | (refine wpList_load_row rfl 88 _ rfl (w.heap.size + 1) rfl 88 (nums .i64 x3_1).toArray (0, 0) _ HB3.out Tryz.underlying88 rfl HS3.out ?_) | (refine wpList_store_row rfl 88 _ _ rfl w.heap.size (nums .i64 x3_1).toArray rfl rfl 88 _ HZ.out HS3.out HT3.out HU3.out ?_))
    refine bodyPost_ret (v := .agg (nums .i64 x3_1).toArray) (results_cell_row rfl _ _ w.heap.size 88 _ (0, 0) _ rfl (setRow_heap _ _ _ _ _ _ HZ.out) Tryz.underlying88 rfl HS3.out) rfl ⟨by rw [HR9.out], below_setRow HB.out (Nat.le_refl _) _⟩
   rw [if_pos c5] at H
   have c5b0 := decide_eq_true c5
   clear c5
   obtain ⟨c6, H⟩ := Qq H
   have c6b0 := decide_eq_true c6
   clear c6
   obtain ⟨c7, H⟩ := Qq H
   have c7b0 := decide_eq_true c7
   clear c7
   have H' := ba_.mk H
   clear H
   have p105 : 0 ≤ (x9_1 : Int) := of_decide_eq_true Qi
   have q105 : x9_1 < (l0.length : Int) := of_decide_eq_true Qi
   obtain ⟨ad105, e105, hx105_0⟩ := Kd.ee_ HR0.out x9_1 p105 q105
   cases e105
   replace hx105_0 := (HB.out.cell (World.block_lt_of_cell? w _ hx105_0)).trans hx105_0
   replace p105 := eq_true p105
   replace q105 := eq_true q105
   go_wp2
   go_loopg [14] k1 (fun kq v14 w' => ∃ (x3_2 : List Int) (x14_2 : Int), v14 = .int .i64 x14_2 ∧ ba_ (xb_.l1 kq l0 x3_2 x9_1 (rd l0 x9_1) l0 (l0.length : Int) x9_1 x14_2 = some r) ∧ ba_ (kq ≤ k1) ∧ ba_ (Kd.R (Kd.int .i64) 88 w' w.heap.size (fun k_ => k_ ≠ w.heap.size) (.slice (some ⟨w.heap.size + 1, 0, none⟩) 6 6) x3_2) ∧ ba_ (w'.heap[w.heap.size]? = some (.cells #[.int .i64 0, .int .i64 0, .int .i64 0, .int .i64 0, .int .i64 0, .int .i64 0] 88 (0, 0))) ∧ ba_ (Below w.heap.size w w'))
   case atStart => exact ⟨(x3_1), (0), Ql, H', ⟨Nat.le_refl _⟩, ⟨Y6⟩, ⟨Y5⟩, ⟨Qh⟩⟩
   case round =>
    clear H'
    try clear p1
    try clear q1
    try clear hx1
    try clear c2
    try clear c2b0
    try clear c2b1
    try clear p2
    try clear c4
    try clear c5
    try clear c5b0
    try clear c6
    try clear c6b0
    try clear c7
    try clear c7b0
    try clear hx105_0
    try clear p105
    try clear p2
    try clear q105
    obtain ⟨x3_2, x14_2, rfl, HA, HK2, HO_3, HZ, HB⟩ := hrel
    cases gk with
    | zero => exact absurd HA.out (by simp [xb_.l1])
    | succ k2 =>
     have H := HA.out
     clear HA
     simp only [xb_.l1] at H
     by_cases c8 : x14_2 < 6
     rotate_left
     ·rw [if_neg c8] at H
      have c8b0 := decide_eq_false c8
      clear c8
      have H' := ba_.mk H
      clear H
      go_wp2
      go_roundg k2
      case measure => exact Q7
      case rel => exact ⟨(x3_2), (wrap64 (x9_1 + 1)), Ql, H', ⟨Q8⟩, ⟨Y6⟩, ⟨Y5⟩, ⟨Qh⟩⟩
     rw [if_pos c8] at H
     have c8b0 := decide_eq_true c8
     clear c8
     obtain ⟨c9, H⟩ := Qq H
     have c9b0 := decide_eq_true c9
     clear c9
     obtain ⟨c10, H⟩ := Qq H
     have c10b0 := decide_eq_true c10
     clear c10
     obtain ⟨ji11, hji11⟩ : ∃ j_ : Int, (mx (rd l0 x9_1) 0) = j_ := ⟨_, rfl⟩
     replace H : ((mo_.f (wrap64 ((wrap64 (x14_2 + 1)) * (wrap64 ((wrap64 ((l0.length : Int) - 1)) - x9_1))))).bind fun t107 => ((zw_.f (ji11) t107).bind fun t108 => (xb_.l1 k2 l0 (x3_2.set (x14_2 : Int).toNat (Go.bits .xor .i64 (rd x3_2 x14_2) t108)) x9_1 (rd l0 x9_1) l0 (l0.length : Int) x9_1 (wrap64 (x14_2 + 1))))) = some r := by first | (rw [hji11] at H; exact H) | (simp only [hji11] at H ⊢; exact H)
     have hji11_ : (if (rd l0 x9_1) < 0 then 0 else (rd l0 x9_1)) = ji11 := hji11
     obtain ⟨t107, A12, H⟩ := Qo H
     try dsimp only at H
     obtain ⟨t108, A13, H⟩ := Qo H
     try dsimp only at H
     obtain ⟨y109, hy109⟩ : ∃ y_ : List Int, y_ = (x3_2.set (x14_2 : Int).toNat (Go.bits .xor .i64 (rd x3_2 x14_2) t108)) := ⟨_, rfl⟩
     replace H : (xb_.l1 k2 l0 y109 x9_1 (rd l0 x9_1) l0 (l0.length : Int) x9_1 (wrap64 (x14_2 + 1))) = some r := by first | (rw [hy109]; with_reducible exact H) | (have H2_ := (Option.bind_some _ _).symm.trans H; rw [hy109]; with_reducible exact H2_) | (have H2_ := (Option.bind_some _ _).symm.trans H; with_reducible exact H2_) | with_reducible exact H | (rw [hy109]; exact H) | exact H
     have Ny109 := ba_.mk hy109
     clear hy109
     have H' := ba_.mk H
     clear H
     try go_wp2
     have n0_ := ba_.mk (Kd.sb_ HO_3.out)
     have n1_ := ba_.mk (ca_ HB.out)
     have HZ := ba_.mk (show wr.drew.heap[w.heap.size]? = some (.cells #[.int .i64 0, .int .i64 0, .int .i64 0, .int .i64 0, .int .i64 0, .int .i64 0] 88 (0, 0)) from HZ.out)
     clear HO_3
     clear HB
     have HO_3 := n0_
     have HB := n1_
     clear n0_ n1_
     obtain ⟨Ao16, co16, eo16⟩ := Kd.td_ HO_3.out
     (first | subst eo16 | (injection eo16 with f1_ f2_ f3_; have f4_ := f1_.symm; have f5_ := f3_.symm; clear f1_ f2_ f3_; subst f4_; subst f5_))
     have p106 : 0 ≤ (x14_2 : Int) := of_decide_eq_true Qi
     have q106 : x14_2 < (x3_2.length : Int) := of_decide_eq_true Qi
     obtain ⟨ad106, e106, hx106_0⟩ := Kd.ee_ (Kd.wb_ HO_3.out).2.2 x14_2 p106 q106
     cases e106
     simp only [add_plain] at hx106_0
     replace p106 := eq_true p106
     replace q106 := eq_true q106
     have q6_ := eq_true (show x14_2 < 6 from of_decide_eq_true c8b0)
     refine ei_ (n := 18) (S := fun w' => w'.cell? ⟨w.heap.size + 1, (x14_2).toNat, none⟩ = some (.int .i64 (rd x3_2 x14_2))) (ds := [17]) Qa1 Qb rfl rfl (hx106_0) (fun hHeld => ?_); refine wh_ xb_.tab8 xb_.ye1_ (fun HT_ HW_ => ?_)
     generalize wr.drew = w15 at HO_3 HB HZ hx106_0 hHeld ⊢
     refine qc_ (i := 0) (N := some 17) (v := ?_) (a' := ?_) Qa4 rfl rfl Qn Qe (Or.inl ⟨by rfl, ?_⟩) ?_ ?_
     rotate_left
     ·exact Qg
     rotate_left
     ·exact Qd
     refine qc_ (i := 1) (N := some 18) (v := ?_) (a' := ?_) Qbf rfl rfl Qn Qe (Or.inl ⟨by rfl, ?_⟩) ?_ ?_
     rotate_left
     ·exact Qg
     rotate_left
     ·exact Qd
     refine qc_ (i := 3) (N := some 20) (v := ?_) (a' := ?_) #[true, true, false, true, false, false, false, false, false, false, false, false, false, false, false, false, false, false] rfl rfl Qn Qe (Or.inl ⟨by rfl, ?_⟩) ?_ ?_
     rotate_left
     ·exact Qg
     rotate_left
     ·exact Qd
     refine qc_ (i := 4) (N := some 21) (v := ?_) (a' := ?_) #[true, true, false, true, true, false, false, false, false, false, false, false, false, false, false, false, false, false] rfl rfl Qn Qe (Or.inl ⟨by rfl, ?_⟩) ?_ ?_
     rotate_left
     ·exact Qg
     rotate_left
     ·exact Qd
     refine qc_ (i := 5) (N := some 22) (v := ?_) (a' := ?_) #[true, true, false, true, true, true, false, false, false, false, false, false, false, false, false, false, false, false] rfl rfl Qn Qe (Or.inl ⟨by rfl, ?_⟩) ?_ ?_
     rotate_left
     ·exact Qg
     rotate_left
     ·exact Qd
     refine qc_ (i := 6) (N := some 23) (v := ?_) (a' := ?_) #[true, true, false, true, true, true, true, false, false, false, false, false, false, false, false, false, false, false] rfl rfl Qn Qe (Or.inl ⟨by rfl, ?_⟩) ?_ ?_
     rotate_left
     ·exact Qg
     rotate_left
     ·exact Qd
     refine qc_ (i := 7) (N := some 24) (v := ?_) (a' := ?_) #[true, true, false, true, true, true, true, true, false, false, false, false, false, false, false, false, false, false] rfl rfl Qn Qe (Or.inl ⟨by rfl, ?_⟩) ?_ ?_
     rotate_left
     ·exact Qg
     rotate_left
     ·exact Qd
     refine qc_ (i := 8) (N := some 25) (v := ?_) (a' := ?_) #[true, true, false, true, true, true, true, true, true, false, false, false, false, false, false, false, false, false] rfl rfl Qn Qe (Or.inl ⟨by rfl, ?_⟩) ?_ ?_
     rotate_left
     ·exact Qg
     rotate_left
     ·exact Qd
     refine qc_ (i := 9) (N := some 26) (v := ?_) (a' := ?_) #[true, true, false, true, true, true, true, true, true, true, false, false, false, false, false, false, false, false] rfl rfl Qn Qe (Or.inl ⟨by rfl, ?_⟩) ?_ ?_
     rotate_left
     ·exact Qg
     rotate_left
     ·exact Qd
     refine qc_ (i := 10) (N := some 27) (v := ?_) (a' := ?_) #[true, true, false, true, true, true, true, true, true, true, true, false, false, false, false, false, false, false] rfl rfl Qn Qe (Or.inl ⟨by rfl, ?_⟩) ?_ ?_
     rotate_left
     ·exact Qg
     rotate_left
     ·exact Qd
     refine qc_ (i := 11) (N := some 28) (v := ?_) (a' := ?_) #[true, true, false, true, true, true, true, true, true, true, true, true, false, false, false, false, false, false] rfl rfl Qn Qe (Or.inl ⟨by rfl, ?_⟩) ?_ ?_
     rotate_left
     ·exact Qg
     rotate_left
     ·exact Qd
     refine qc_ (i := 12) (N := some 29) (v := ?_) (a' := ?_) #[true, true, false, true, true, true, true, true, true, true, true, true, true, false, false, false, false, false] rfl rfl Qn Qe (Or.inl ⟨by rfl, ?_⟩) ?_ ?_
     rotate_left
     ·exact Qg
     rotate_left
     ·exact Qd
     refine wf_ (i := 2) (N := some 19) (v := ?_) (a' := ?_) Qbq rfl rfl (ve_ HT_.out HW_.out Qb) Qe (Or.inl ⟨by rfl, ?_⟩) hHeld ?_ ?_
     rotate_left
     ·intro w' s0
      go_simp
      with_reducible rfl
     rotate_left
     ·exact Qd
     refine one_ (i := 13) (N := some 30) Qbw rfl rfl Qz Qc (fun K hK => ?_)
     refine zm_ Tryz.func80 Qb rfl #[.int .i64 (wrap64 ((wrap64 (x14_2 + 1)) * (wrap64 ((wrap64 ((l0.length : Int) - 1)) - x9_1))))] (by rfl) rfl rfl Qm ?_
     with_reducible refine (mo_.calls (wrap64 ((wrap64 (x14_2 + 1)) * (wrap64 ((wrap64 ((l0.length : Int) - 1)) - x9_1)))) t107 _ A12.out).mono ?_
     rintro e w' ⟨rfl, ⟨nd, rfl⟩⟩
     refine ⟨_, rfl, ?_⟩
     refine hK.out _ _ (hHeld) (fun hHeld => ?_)
     clear hK K
     refine ug_ (a' := ?_) ?_ ?_
     rotate_left
     ·show Act.put _ (some 30) _ = _
      simp only [Act.put, List.setIfInBounds_toArray, List.set_cons_zero, List.set_cons_succ, yb_, ac_]
      rfl
     refine one_ (i := 14) (N := some 31) Qbx rfl rfl Qz Qc (fun K hK => ?_)
     refine zm_ Tryz.func79 Qb rfl #[.int .i64 ji11, .int .i64 t107] (by rfl) rfl rfl (by (try simp only [List.map_toArray, List.map_cons, List.map_nil]); first | done | (simp only [hji11]; rfl) | rfl | (simp only [List.length_drop, List.length_take]; rfl)) ?_
     with_reducible refine (zw_.calls ji11 t107 t108 _ A13.out).mono ?_
     rintro e w' ⟨rfl, ⟨nd, rfl⟩⟩
     refine ⟨_, rfl, ?_⟩
     have p14 : 0 ≤ (x14_2 : Int) := of_decide_eq_true Qi
     have q14 : (x14_2 : Int) < ((6 : Nat) : Int) := by have := of_decide_eq_true c8b0; omega
     obtain ⟨go14, co14, eo14, gb14, gl14, cl14, HG14⟩ := Kd.zi_ HO_3.out (by rw [(dq_ HO_3.out Qc).2]; decide)
     obtain ⟨hg14_, hc14_⟩ : go14 = w.heap.size + 1 ∧ co14 = 6 := by injection eo14 with a_ b_ c_; injection a_ with a_; injection a_ with a_; exact ⟨a_.symm, c_.symm⟩
     subst hg14_; subst hc14_
     have HN := ba_.mk (show w.heap.size ≠ w.heap.size + 1 from by omega)
     have GB14 := ba_.mk gb14
     have GG14 := ba_.mk HG14
     clear gb14 gl14 HG14
     (first | simp only [add_plain] at hx106_0 | skip)
     obtain ⟨hx14_0, hf14_0⟩ := Kd.ph_ 0 HO_3.out (x14_2 : Int) p14 q14
     replace p14 := eq_true p14
     replace q14 := eq_true q14
     have HP17 := Kd.wo_ HO_3.out (x14_2 : Int) (Go.bits .xor .i64 (rd x3_2 x14_2) t108)
     rw [← Ny109.out] at HP17
     have HQ17 := ba_.mk HP17
     clear HP17
     refine hK.out _ _ (hHeld) (fun hHeld => ?_)
     clear hK K
     refine ug_ (a' := ?_) ?_ ?_
     rotate_left
     ·show Act.put _ (some 31) _ = _
      simp only [Act.put, List.setIfInBounds_toArray, List.set_cons_zero, List.set_cons_succ, yb_, ac_]
      rfl
     refine qc_ (i := 15) (N := some 32) (v := ?_) (a' := ?_) Qby rfl rfl Qn Qe (Or.inl ⟨by rfl, ?_⟩) ?_ ?_
     rotate_left
     ·exact Qg
     rotate_left
     ·exact Qd
     refine qc_ (i := 16) (N := some 33) (v := ?_) (a' := ?_) Qbz rfl rfl Qn Qe (Or.inl ⟨by rfl, ?_⟩) ?_ ?_
     rotate_left
     ·exact Qg
     rotate_left
     ·exact Qd
     refine an_ (i := 17) (N := none) Qb0 rfl rfl Qz Qc (fun K hK => ?_)
     refine em_ (w1 := ?_) (by rfl) rfl ?_ ?_
     rotate_left
     ·go_simp
      rfl
     refine hK.out _ _ ?_
     clear hK K
     refine yk_ Xt ?_
     try go_wp2
     go_roundg k2
     case measure => exact Q7
     case rel => exact ⟨(y109), (wrap64 (x14_2 + 1)), Ql, H', ⟨Q8⟩, ⟨by (with_reducible repeat (first | apply Kd.bb_ | apply Kd.cb_ | apply Kd.sb_)); exact HQ17.out⟩, ⟨Y5⟩, ⟨by repeat (first | (with_reducible first | exact HB.out | apply da_ | apply aa_ | apply ca_ | refine fa_ ?_ GB14.out) | exact HB.out)⟩⟩
end Go.Proofs.YtpkhgapifnjbeaaGreatDoor.S
end
section
namespace Go.Proofs.YtpkhgapifnjbeaaGreatDoor.S
open RowKit G Zw.PrintWords Zw.PrintLast Zw.PrintMore
attribute [local go_sem] pd_ rd_ yd_ zd_ dd_ ed_ qd_ sd_
end Go.Proofs.YtpkhgapifnjbeaaGreatDoor.S
end
section
namespace Go.Proofs.YtpkhgapifnjbeaaGreatDoor.G
open RowKit Zw.PrintWords Zw.PrintLast Zw.PrintMore
structure Mat (W : World) (base g R C : Nat) (h cc : Nat → Nat) (M : Nat → Nat → Int) : Prop where
 out : ∀ i, i < R → W.cell? ⟨g, i, none⟩ = some (.slice (some ⟨h i, 0, none⟩) C (cc i))
 fro : ∀ i, i < R → W.frozen? ⟨g, i, none⟩ = false
 cel : ∀ i k, i < R → k < C → W.cell? ⟨h i, k, none⟩ = some (.int .i64 (M i k))
 frc : ∀ i k, i < R → k < C → W.frozen? ⟨h i, k, none⟩ = false
 ne : ∀ i, i < R → h i ≠ g
 inj : ∀ i j, i < R → j < R → h i = h j → i = j
 lo : ∀ i, i < R → base ≤ h i
 lg : base ≤ g
def updM (M : Nat → Nat → Int) (i k : Nat) (x : Int) : Nat → Nat → Int := fun i' k' => if i' = i ∧ k' = k then x else M i' k'
def xg_ {α : Type} (f : Nat → α) (a b : Nat) : Nat → α := fun i => if i = a then f b else if i = b then f a else f i
section
variable {W W1 : World} {base g R C : Nat} {h cc : Nat → Nat} {M : Nat → Nat → Int}
theorem Mat.same (H : Mat W base g R C h cc M) (hc : ∀ a, W1.cell? a = W.cell? a) (hf : ∀ a, W1.frozen? a = W.frozen? a) : Mat W1 base g R C h cc M :=
 ⟨fun i hi => (hc _).trans (H.out i hi), fun i hi => (hf _).trans (H.fro i hi), fun i k hi hk => (hc _).trans (H.cel i k hi hk), fun i k hi hk => (hf _).trans (H.frc i k hi hk), H.ne, H.inj, H.lo, H.lg⟩
theorem Mat.drewN (H : Mat W base g R C h cc M) (n : Nat) : Mat (W.drewN n) base g R C h cc M := H.same (fun _ => rfl) (fun _ => rfl)
theorem Mat.drew (H : Mat W base g R C h cc M) : Mat W.drew base g R C h cc M := H.same (fun _ => rfl) (fun _ => rfl)
theorem Mat.below (H : Mat W base g R C h cc M) (hb : Below W.heap.size W W1) : Mat W1 base g R C h cc M := by
 have hlt : ∀ a v, W.cell? a = some v → a.block < W.heap.size := fun a v hv => World.block_lt_of_cell? W a hv
 refine ⟨fun i hi => (hb.cell (hlt _ _ (H.out i hi))).trans (H.out i hi), fun i hi => (hb.frozen (hlt _ _ (H.out i hi))).trans (H.fro i hi), fun i k hi hk => (hb.cell (hlt _ _ (H.cel i k hi hk))).trans (H.cel i k hi hk), fun i k hi hk => (hb.frozen (hlt _ _ (H.cel i k hi hk))).trans (H.frc i k hi hk), H.ne, H.inj, H.lo, H.lg⟩
theorem Mat.set (H : Mat W base g R C h cc M) (i k : Nat) (hi : i < R) (hk : k < C) (x : Int) : Mat (W.setCell ⟨h i, k, none⟩ (.int .i64 x)) base g R C h cc (updM M i k x) := by
 refine ⟨fun i' hi' => ?_, fun i' hi' => ?_, fun i' k' hi' hk' => ?_, fun i' k' hi' hk' => ?_, H.ne, H.inj, H.lo, H.lg⟩
 ·rw [World.cell?_setCell_other _ _ _ _ (by intro e; simp only [Addr.mk.injEq] at e; exact H.ne i hi e.1)]
  exact H.out i' hi'
 ·rw [World.frozen?_setCell]; exact H.fro i' hi'
 ·by_cases e : i' = i ∧ k' = k
  ·obtain ⟨rfl, rfl⟩ := e
   rw [World.cell?_setCell_same _ _ _ (H.cel _ _ hi hk)]
   simp [updM]
  ·rw [World.cell?_setCell_other _ _ _ _ (by intro q; simp only [Addr.mk.injEq] at q; exact e ⟨(H.inj _ _ hi hi' q.1).symm, q.2.1.symm⟩), H.cel i' k' hi' hk']
   simp [updM, e]
 ·rw [World.frozen?_setCell]; exact H.frc i' k' hi' hk'
theorem Mat.congr {M' : Nat → Nat → Int} (H : Mat W base g R C h cc M) (e : ∀ i k, i < R → k < C → M i k = M' i k) : Mat W base g R C h cc M' :=
 ⟨H.out, H.fro, fun i k hi hk => by rw [← e i k hi hk]; exact H.cel i k hi hk, H.frc, H.ne, H.inj, H.lo, H.lg⟩
theorem Mat.rk1_ (H : Mat W base g R C h cc M) (a b : Nat) (ha : a < R) (hb : b < R) :
  ∀ i, i < R → ((W.setCell ⟨g, a, none⟩ (.slice (some ⟨h b, 0, none⟩) C (cc b))).setCell ⟨g, b, none⟩ (.slice (some ⟨h a, 0, none⟩) C (cc a))).cell? ⟨g, i, none⟩ = some (.slice (some ⟨xg_ h a b i, 0, none⟩) C (xg_ cc a b i)) := by
 intro i hi
 have h1 : ∀ v, (W.setCell ⟨g, a, none⟩ v).cell? ⟨g, b, none⟩ = some (if a = b then v else .slice (some ⟨h b, 0, none⟩) C (cc b)) := by
  intro v
  by_cases e : a = b
  ·subst e; rw [World.cell?_setCell_same _ _ _ (H.out a ha), if_pos rfl]
  ·rw [World.cell?_setCell_other _ _ _ _ (by intro q; simp only [Addr.mk.injEq] at q; exact e q.2.1), if_neg e]; exact H.out b hb
 by_cases e : i = b
 ·subst e
  rw [World.cell?_setCell_same _ _ _ (h1 _)]
  by_cases e2 : i = a <;> simp [xg_, e2]
 rw [World.cell?_setCell_other _ _ _ _ (by intro q; simp only [Addr.mk.injEq] at q; exact e q.2.1.symm)]
 by_cases e2 : i = a
 ·subst e2
  rw [World.cell?_setCell_same _ _ _ (H.out i hi)]
  simp [xg_]
 ·rw [World.cell?_setCell_other _ _ _ _ (by intro q; simp only [Addr.mk.injEq] at q; exact e2 q.2.1.symm), H.out i hi]
  simp [xg_, e, e2]
theorem wp_ {α : Type} {f : Nat → α} {a b i R : Nat} {p : α → Prop} (hp : ∀ i, i < R → p (f i)) (ha : a < R) (hb : b < R) (hi : i < R) : p (xg_ f a b i) := by
 unfold xg_
 split
 ·exact hp b hb
 split
 ·exact hp a ha
 ·exact hp i hi
theorem Mat.swap (H : Mat W base g R C h cc M) (a b : Nat) (ha : a < R) (hb : b < R) :
  Mat ((W.setCell ⟨g, a, none⟩ (.slice (some ⟨h b, 0, none⟩) C (cc b))).setCell ⟨g, b, none⟩ (.slice (some ⟨h a, 0, none⟩) C (cc a))) base g R C (xg_ h a b) (xg_ cc a b) (xg_ M a b) := by
 have hne : ∀ i, i < R → xg_ h a b i ≠ g := fun i hi => wp_ (p := fun x => x ≠ g) H.ne ha hb hi
 have hpair : ∀ i, i < R → ∃ j, j < R ∧ xg_ h a b i = h j ∧ xg_ M a b i = M j ∧ (i = a ∧ j = b ∨ i ≠ a ∧ i = b ∧ j = a ∨ i ≠ a ∧ i ≠ b ∧ j = i) := by
  intro i hi
  unfold xg_
  by_cases e1 : i = a
  ·exact ⟨b, hb, by simp [e1], by simp [e1], .inl ⟨e1, rfl⟩⟩
  by_cases e2 : i = b
  ·exact ⟨a, ha, by rw [if_neg e1, if_pos e2], by rw [if_neg e1, if_pos e2], .inr (.inl ⟨e1, e2, rfl⟩)⟩
  ·exact ⟨i, hi, by rw [if_neg e1, if_neg e2], by rw [if_neg e1, if_neg e2], .inr (.inr ⟨e1, e2, rfl⟩)⟩
 refine ⟨H.rk1_ a b ha hb, fun i hi => ?_, fun i k hi hk => ?_, fun i k hi hk => ?_, hne, fun i j hi hj e => ?_, fun i hi => wp_ (p := fun x => base ≤ x) H.lo ha hb hi, H.lg⟩
 ·rw [World.frozen?_setCell, World.frozen?_setCell]; exact H.fro i hi
 ·obtain ⟨j, hj, e1, e2, _⟩ := hpair i hi
  have hn := H.ne j hj
  rw [e1, e2, World.cell?_setCell_other _ _ _ _ (by intro q; simp only [Addr.mk.injEq] at q; exact hn q.1.symm), World.cell?_setCell_other _ _ _ _ (by intro q; simp only [Addr.mk.injEq] at q; exact hn q.1.symm)]
  exact H.cel j k hj hk
 ·obtain ⟨j, hj, e1, _, _⟩ := hpair i hi
  rw [e1, World.frozen?_setCell, World.frozen?_setCell]
  exact H.frc j k hj hk
 obtain ⟨i', hi', e1, _, c1⟩ := hpair i hi
 obtain ⟨j', hj', e2, _, c2⟩ := hpair j hj
 rw [e1, e2] at e
 have := H.inj i' j' hi' hj' e
 omega
end
theorem zy_ {α : Type} [Inhabited α] {n : Nat} {P : Nat → α → Prop} (h : ∀ i, i < n → ∃ x, P i x) : ∃ F : Nat → α, ∀ i, i < n → P i (F i) := by
 classical
 refine ⟨fun i => if hi : i < n then Classical.choose (h i hi) else default, fun i hi => ?_⟩
 simp only [hi, dif_pos]
 exact Classical.choose_spec (h i hi)
theorem bg1_ {W : World} {base e1 e2 C : Nat} {ok : Nat → Prop} {v : Value} {xs : List (List Int)} (H : Kd.S (Kd.slice e2 (Kd.int .i64)) e1 W base ok v xs) (hR : 0 < xs.length) (hC : ∀ x, x ∈ xs → x.length = C) (hC0 : 0 < C) :
  ∃ g cap h cc, v = .slice (some ⟨g, 0, none⟩) xs.length cap ∧ Mat W base g xs.length C h cc (fun i k => (xs.getD i []).getD k 0) := by
 obtain ⟨f, h0, inner, ho, hr⟩ := H
 have hsz : ((Kd.slice e2 (Kd.int .i64)).tag f).sz = 1 := rfl
 rw [List.length_zipIdx, hsz] at ho
 rcases ho with ⟨hlen, ⟨_, hn⟩ | ⟨g, cap, cur, rfl, hb, hg, h1, h2, h3, h4⟩⟩
 ·omega
 have hrow : ∀ i, i < xs.length → ∃ p : Nat × Nat, inner[i]? = some (.slice (some ⟨p.1, 0, none⟩) C p.2) ∧ Kd.R (Kd.int .i64) e2 W base (fun k => (ok k ∧ some k ≠ some g) ∧ f k = i) (.slice (some ⟨p.1, 0, none⟩) C p.2) (xs.getD i []) ∧ base ≤ p.1 := by
  intro i hi
  have hx : xs[i]? = some (xs.getD i []) := by rw [List.getD_eq_getElem?_getD, List.getElem?_eq_getElem hi]; rfl
  have hm := hr.2 i (xs.getD i [], i) (Kd.sm_ hx)
  rw [hsz, Nat.mul_one] at hm
  obtain ⟨vi, hcs, hR1⟩ := hm
  have hxl : (xs.getD i []).length = C := hC _ (List.mem_iff_getElem?.2 ⟨i, hx⟩)
  obtain ⟨hg1, c1, he, hb1, _⟩ := Kd.zi_ hR1 (by rw [hxl]; exact hC0)
  rw [hxl] at he
  subst he
  refine ⟨(hg1, c1), ?_, hR1, hb1⟩
  have : (List.take 1 (List.drop i inner))[0]? = some (.slice (some ⟨hg1, 0, none⟩) C c1) := by rw [hcs]; rfl
  rw [List.getElem?_take] at this
  simpa using this
 obtain ⟨F, hF⟩ := zy_ hrow
 have hcell : ∀ j, W.cell? ⟨g, j, none⟩ = cur[j]? := fun j => cell_of_row W g j cur e1 (0, 0) hg
 refine ⟨g, cap, fun i => (F i).1, fun i => (F i).2, rfl, fun i hi => ?_, fun i hi => frozen_of_row W g i cur e1 hg, fun i k hi hk => ?_, fun i k hi hk => ?_, fun i hi => ?_, fun i j hi hj e => ?_, fun i hi => (hF i hi).2.2, hb⟩
 ·rw [hcell, ← (hF i hi).1, ← h4]
  rw [List.getElem?_take, if_pos Qa, Array.getElem?_toList]
 ·have := (Kd.ph_ 0 (hF i hi).2.1 (k : Int) Qa Qa).1
  rw [Int.toNat_natCast] at this
  rw [this]
  simp [rdOf, List.getD_eq_getElem?_getD]
 ·have := (Kd.ph_ 0 (hF i hi).2.1 (k : Int) Qa Qa).2
  rwa [Int.toNat_natCast] at this
 ·have := (hF i hi).2.1.1 (F i).1 rfl
  intro e
  exact this.1.2 (by rw [e])
 have a := (hF i hi).2.1.1 (F i).1 rfl
 have b := (hF j hj).2.1.1 (F j).1 rfl
 have e' : (F i).1 = (F j).1 := e
 rw [e'] at a
 exact a.2.symm.trans b.2
end Go.Proofs.YtpkhgapifnjbeaaGreatDoor.G
end
section
namespace Go.Proofs.YtpkhgapifnjbeaaGreatDoor.G
open RowKit Rs
def pivot (M : Nat → Nat → Int) (c R : Nat) : Nat := ((List.range R).find? (fun i => decide (c ≤ i) && decide (M i c ≠ 0))).getD R
theorem rp_ {M : Nat → Nat → Int} {c R r : Nat} (h1 : c ≤ r) (h2 : r ≤ R) (h3 : ∀ i, c ≤ i → i < r → M i c = 0) (h4 : r < R → M r c ≠ 0) : pivot M c R = r := by
 unfold pivot
 by_cases h : r < R
 ·have : (List.range R).find? (fun i => decide (c ≤ i) && decide (M i c ≠ 0)) = some r := by
   rw [List.find?_range_eq_some]
   refine ⟨by simp [h1, h4 h], by simpa using h, fun j hj => ?_⟩
   by_cases hc : c ≤ j
   ·simp [h3 j hc hj]
   ·simp [hc]
  rw [this]; rfl
 have hr : r = R := by omega
 subst hr
 have : (List.range r).find? (fun i => decide (c ≤ i) && decide (M i c ≠ 0)) = none := by
  rw [List.find?_range_eq_none]
  intro j hj
  by_cases hc : c ≤ j
  ·simp [h3 j hc hj]
  ·simp [hc]
 rw [this]; rfl
def fl_ (M : Nat → Nat → Int) (c : Nat) (b : Int) : Nat → Nat → Int := fun i k => if i = c then mulI (M i k) b else M i k
def ko_ (M : Nat → Nat → Int) (c : Nat) : Nat → Nat → Int := fun i k => if i ≠ c ∧ M i c ≠ 0 then xorI (M i k) (mulI (M i c) (M c k)) else M i k
def ur_ (M : Nat → Nat → Int) (c p : Nat) : Nat → Nat → Int := ko_ (fl_ (xg_ M c p) c (invI (xg_ M c p c c))) c
def gjI (R : Nat) (M0 : Nat → Nat → Int) : Nat → Option (Nat → Nat → Int)
 | 0 => some M0
 | c + 1 => match gjI R M0 c with
  | none => none
  | some M => if pivot M c R = R then none else some (ur_ M c (pivot M c R))
def ri_ (M : Nat → Nat → Int) (c i : Nat) : Nat → Nat → Int := fun i' k => if i' < i then ko_ M c i' k else M i' k
def sh_ (M : Nat → Nat → Int) (c i k : Nat) : Nat → Nat → Int := fun i' k' => if i' = i then (if k' < k then xorI (M i k') (mulI (M i c) (M c k')) else M i k') else ri_ M c i i' k'
def vi_ (M : Nat → Nat → Int) (c : Nat) (b : Int) (k : Nat) : Nat → Nat → Int := fun i k' => if i = c ∧ k' < k then mulI (M i k') b else M i k'
theorem fp_ (M : Nat → Nat → Int) (c : Nat) (b : Int) : vi_ M c b 0 = M := by funext i k; simp [vi_]
theorem ep_ (M : Nat → Nat → Int) (c : Nat) (b : Int) (k : Nat) : updM (vi_ M c b k) c k (mulI (M c k) b) = vi_ M c b (k + 1) := by
 funext i k'
 simp only [updM, vi_]
 by_cases h1 : i = c <;> by_cases h2 : k' = k
 ·subst h1; subst h2; simp
 ·have : k' < k + 1 ↔ k' < k := by omega
  simp [h1, h2, this]
 ·simp [h1]
 ·simp [h1]
theorem xs_ (M : Nat → Nat → Int) (c : Nat) (b : Int) (k : Nat) : vi_ M c b k c k = M c k := by simp [vi_]
theorem nq_ (M : Nat → Nat → Int) (c : Nat) : ri_ M c 0 = M := by funext i k; simp [ri_]
theorem hl_ (M : Nat → Nat → Int) (c i : Nat) (h : i = c ∨ M i c = 0) : ri_ M c (i + 1) = ri_ M c i := by
 funext i' k
 simp only [ri_]
 by_cases h1 : i' < i
 ·rw [if_pos Qa, if_pos h1]
 by_cases h2 : i' = i
 rotate_left
 ·rw [if_neg Qa, if_neg h1]
 subst h2
 rw [if_pos Qa, if_neg h1]
 unfold ko_
 rw [if_neg (by rcases h with h | h <;> simp [h])]
theorem wl_ (M : Nat → Nat → Int) (c i k : Nat) : ri_ M c i i k = M i k := by simp [ri_]
theorem aa1_ (M : Nat → Nat → Int) (c i k : Nat) : ri_ M c i c k = M c k := by
 unfold ri_ ko_
 simp
theorem yo_ (M : Nat → Nat → Int) (c i : Nat) : sh_ M c i 0 = ri_ M c i := by
 funext i' k
 simp only [sh_]
 by_cases h : i' = i
 ·subst h; simp [wl_]
 ·rw [if_neg h]
theorem hm_ (M : Nat → Nat → Int) (c i k : Nat) : sh_ M c i k i k = M i k := by simp [sh_]
theorem gl_ (M : Nat → Nat → Int) (c i k k' : Nat) (h : i ≠ c) : sh_ M c i k c k' = M c k' := by
 unfold sh_
 rw [if_neg (Ne.symm h), aa1_]
theorem xo_ (M : Nat → Nat → Int) (c i k : Nat) : updM (sh_ M c i k) i k (xorI (M i k) (mulI (M i c) (M c k))) = sh_ M c i (k + 1) := by
 funext i' k'
 simp only [updM, sh_]
 by_cases h1 : i' = i <;> by_cases h2 : k' = k
 ·subst h1; subst h2; simp
 ·have : k' < k + 1 ↔ k' < k := by omega
  simp [h1, h2, this]
 ·simp [h1]
 ·simp [h1]
theorem mq_ (M : Nat → Nat → Int) (c i C : Nat) (hi : i ≠ c) (hz : M i c ≠ 0) : ∀ i' k, k < C → sh_ M c i C i' k = ri_ M c (i + 1) i' k := by
 intro i' k hk
 simp only [sh_, ri_]
 by_cases h1 : i' = i
 ·subst h1
  simp [hk, ko_, hi, hz]
 by_cases h2 : i' < i
 ·simp [h1, h2, Nat.lt_succ_of_lt h2]
 ·simp [h1, h2, show ¬ i' < i + 1 by omega]
theorem ks_ (M N : Nat → Nat → Int) (c R C : Nat) (hN : ∀ i k, k < C → M i k = N i k) (hc : c < C) : ∀ i k, i < R → k < C → ri_ M c R i k = ko_ N c i k := by
 intro i k hi hk
 simp only [ri_, ko_]
 rw [if_pos hi, hN i c hc, hN i k hk, hN c k hk]
theorem cr_ (M : Nat → Nat → Int) (c : Nat) (b : Int) (C : Nat) : ∀ i k, k < C → vi_ M c b C i k = fl_ M c b i k := by
 intro i k hk
 simp [vi_, fl_, hk]
def om_ (M : Nat → Nat → Int) (n i : Nat) : List Int := (List.range n).map fun j => if j < i then M j n else 0
theorem bp_ (M : Nat → Nat → Int) (n i : Nat) : (om_ M n i).length = n := by simp [om_]
theorem na1_ (M : Nat → Nat → Int) (n : Nat) : om_ M n 0 = List.replicate n 0 := by
 apply List.ext_getElem <;> simp [om_]
theorem ma1_ (M : Nat → Nat → Int) (n i : Nat) : (om_ M n i).set i (M i n) = om_ M n (i + 1) := by
 apply List.ext_getElem
 ·simp [om_]
 intro j h1 h2
 rw [List.getElem_set]
 simp only [om_, List.getElem_map, List.getElem_range]
 by_cases e : i = j
 ·subst e; simp
 rw [if_neg e]
 have : j < i + 1 ↔ j < i := by omega
 simp [this]
theorem la1_ (M : Nat → Nat → Int) (n i : Nat) (h : n ≤ i) : om_ M n (i + 1) = om_ M n i := by
 apply List.ext_getElem
 ·simp [om_]
 intro j h1 h2
 simp [om_] at h1 ⊢
 simp [show j < i + 1 by omega, show j < i by omega]
theorem sd1_ (M : Nat → Nat → Int) (n i : Nat) (h : n ≤ i) : om_ M n i = (List.range n).map fun j => M j n := by
 apply List.ext_getElem
 ·simp [om_]
 intro j h1 h2
 simp [om_] at h1 ⊢
 intro h3
 omega
end Go.Proofs.YtpkhgapifnjbeaaGreatDoor.G
end
section
namespace Go.Proofs.YtpkhgapifnjbeaaGreatDoor.G
open RowKit Zw.PrintWords Zw.PrintLast Zw.PrintMore Rs
theorem lv_ (x : Int) (W : World) : Sem.run Tryz.prog (method 272 87 (.int .i64 x) "awardingbody/rscode.inverse") W = .ok (157, .int .i64 x) W := by kernel_rfl
theorem ms_ (x : Int) (W : World) : Sem.run Tryz.prog (method 272 87 (.int .i64 x) "awardingbody/rscode.times") W = .ok (116, .int .i64 x) W := by kernel_rfl
theorem od1_ (x : Int) (W : World) : Sem.run Tryz.prog (method 272 87 (.int .i64 x) "awardingbody/rscode.plus") W = .ok (115, .int .i64 x) W := by kernel_rfl
def solR (R n : Nat) (M : Nat → Nat → Int) : List Int × Bool :=
 match gjI R M n with
 | none => ([], false)
 | some M' => if ((List.range R).all fun i => decide (i < n) || decide (M' i n = 0)) = true then ((List.range n).map fun i => M' i n, true) else ([], false)
theorem ty_ {R : Nat} {M M' : Nat → Nat → Int} {c : Nat} (h : gjI R M c = some M') (hp : pivot M' c R = R) : ∀ d, gjI R M (c + 1 + d) = none := by
 intro d
 induction d with
 | zero => simp [gjI, h, hp]
 | succ d ih => rw [show c + 1 + (d + 1) = (c + 1 + d) + 1 from rfl, gjI, ih]
theorem je1_ {R n : Nat} {M M' : Nat → Nat → Int} {c : Nat} (h : gjI R M c = some M') (hp : pivot M' c R = R) (hc : c < n) : solR R n M = ([], false) := by
 unfold solR
 have := ty_ h hp (n - (c + 1))
 rw [show c + 1 + (n - (c + 1)) = n from by omega] at this
 rw [this]
theorem hs_ {W : World} {p : Addr} {u : Value} (h : W.cell? p = some u) (q : Addr) (x : Value) : ∃ v, (W.setCell q x).cell? p = some v := by
 by_cases e : q = p
 ·subst e; exact ⟨x, World.cell?_setCell_same _ _ _ h⟩
 ·exact ⟨u, (World.cell?_setCell_other _ _ _ _ e).trans h⟩
theorem jz_ {R n i : Nat} {M M' : Nat → Nat → Int} (h : gjI R M n = some M') (hi : i < R) (hn : n ≤ i) (hz : M' i n ≠ 0) : solR R n M = ([], false) := by
 unfold solR
 rw [h]
 simp only
 rw [if_neg]
 intro hh
 have := List.all_eq_true.1 hh i (by simpa using hi)
 simp [hz] at this
 omega
theorem do_ {R n : Nat} {M M' : Nat → Nat → Int} (h : gjI R M n = some M') (hz : ∀ i, n ≤ i → i < R → M' i n = 0) : solR R n M = ((List.range n).map fun i => M' i n, true) := by
 unfold solR
 rw [h]
 simp only
 rw [if_pos]
 refine List.all_eq_true.2 fun i hi => ?_
 by_cases hin : i < n
 ·simp [hin]
 ·simp [hz i Qa (by simpa using hi)]
def ub1_ (T base R n : Nat) (M : Nat → Nat → Int) (w : World) (e : Ending) (w' : World) : Prop :=
 ∃ v0_ : Value, e = .returned (.tuple #[v0_, .bool (solR R n M).2]) ∧ Kd.R (Kd.int .i64) T w' w.heap.size (fun _ => True) v0_ (solR R n M).1 ∧ Below base w w'
set_option maxHeartbeats 4000000 in
set_option maxRecDepth 100000 in
theorem eb1_ (base g R n cap : Nat) (h cc : Nat → Nat) (M : Nat → Nat → Int) (w : World) (HM0 : Mat w base g R (n + 1) h cc M) (hR : 1 ≤ R) (hR2 : R ≤ 100) (hn : n ≤ 100) (hbase : base ≤ w.heap.size) :
  Calls Tryz.prog 96 #[.slice (some ⟨g, 0, none⟩) R cap] w (ub1_ 87 base R n M w) := by
 have HM := Lib.hid HM0
 clear HM0
 have f0 := HM.out.out 0 Qa
 go_enter Tryz.func96, Tryz.ntmps96
 go_wp2
 go_loopw [22] (fun v wr => ∃ c : Nat, c ≤ n ∧ c ≤ R ∧ v = .int .i64 c ∧ ∃ (h cc : Nat → Nat) (M' : Nat → Nat → Int), Hid (gjI R M c = some M') ∧ Hid (Mat wr base g R (n + 1) h cc M') ∧ Hid (Below base w wr)) (fun v _ => n - (intOf v).toNat)
 case atStart => exact ⟨0, Nat.zero_le _, Nat.zero_le _, rfl, h, cc, M, Lib.hid rfl, HM, Lib.hid (Below.refl _ _)⟩
 case round =>
  clear f0 HM
  obtain ⟨c, hc, hcR, rfl, h, cc, M1, HG, HM, HB⟩ := hrel
  obtain ⟨wo, rfl⟩ : ∃ wo : World, wo = wr := ⟨_, rfl⟩
  by_cases hcn : c < n
  rotate_left
  ·obtain rfl : c = n := by omega
   have i57 : (Tryz.prog.info? 87).map (fun i => (i.zero, i.size, i.bytes)) = some (some (.int .i64 0), 1, 8) := by kernel_rfl
   have I57 := Lib.hid i57
   clear i57
   go_wp2_with (first | ((with_reducible refine ld_ (N := 152) rfl ?_); refine Kd.bq_ (Kd.int .i64) wo.heap.size 87 rfl (N := 152) rfl 124 _ _ rfl (c : Int) rfl rfl Tryz.underlying124 (.int .i64 0) 8 I57.out rfl Qc Qa 0 (ok := fun _ => True) (okp := fun _ => True) rfl (fun _ hk => hk) trivial Qa Qa (Below.refl _ _) (Nat.le_refl _) ?_; intro v1 w1 ho1 hb1 hg1_ hnew_; clear hg1_ hnew_; have HO := Lib.hid ho1; have HW := Lib.hid hb1; clear ho1 hb1))
   go_loopw [155] (fun v wr => ∃ i : Nat, i ≤ R ∧ v = .int .i64 i ∧ Hid (Kd.R (Kd.int .i64) 87 wr wo.heap.size (fun _ => True) v1 (om_ M1 c i)) ∧ Hid (∀ i', c ≤ i' → i' < i → M1 i' c = 0) ∧ Hid (Below wo.heap.size wo wr)) (fun v _ => R - (intOf v).toNat)
   case atStart => exact ⟨0, Nat.zero_le _, rfl, Lib.hid (by rw [na1_]; have := HO.out; simpa using this), Lib.hid (fun i' h1 h2 => by omega), HW⟩
   case round =>
    clear HO HW
    obtain ⟨i, hi, rfl, HO, HZ, HW⟩ := hrel
    obtain ⟨w2, rfl⟩ : ∃ x : World, x = wr := ⟨_, rfl⟩
    have HM2 := Lib.hid (HM.out.below HW.out)
    by_cases hiR : i < R
    rotate_left
    ·obtain rfl : i = R := by omega
     have HS := Lib.hid (do_ (n := c) HG.out HZ.out)
     go_wp2
     go_ret2
     exact ⟨_, by rw [HS.out]; rfl, by rw [HS.out]; rw [← sd1_ M1 c i hcR]; exact Kd.xd_ HO.out HB.out.size, io_ HB.out (Nat.le_trans hbase HB.out.size) HW.out⟩
    have fo := HM2.out.out i hiR
    have fe := HM2.out.cel i c hiR Qa
    by_cases hic : i < c
    rotate_left
    ·by_cases hz : M1 i c = 0
     ·have hb : ((M1 i c) != 0) = false := bne_eq_false_iff_eq.2 hz
      have HZ1 := Lib.hid hz
      clear hz
      go_wp2
      go_roundw
      case rel => exact ⟨i + 1, Qa, by go_num, Lib.hid (by rw [la1_ _ _ _ Qa]; exact HO.out), Lib.hid (fun i' h1 h2 => by rcases Nat.lt_or_ge i' i with h3 | h3; exact HZ.out i' h1 h3; rw [show i' = i from by omega]; exact HZ1.out), HW⟩
      case measure => simp [intOf]; omega
     ·have hb : ((M1 i c) != 0) = true := bne_iff_ne.2 hz
      have HS := Lib.hid (jz_ (R := R) (n := c) HG.out hiR Qa hz)
      clear hz
      go_wp2
      go_ret2
      exact ⟨_, by rw [HS.out]; rfl, by rw [HS.out]; exact Kd.vf_ _ _ _ _ _, io_ HB.out (Nat.le_trans hbase HB.out.size) HW.out⟩
    obtain ⟨go, co, eo, hgo, hgl, _⟩ := Kd.zi_ HO.out (by rw [bp_]; omega)
    rw [bp_] at eo
    subst eo
    obtain ⟨sr, sf⟩ := Kd.ph_ 0 HO.out (i : Int) Qa Qa
    rw [Int.toNat_natCast] at sr sf
    have HP := Lib.hid (Kd.wo_ HO.out (i : Int) (M1 i c))
    go_wp2
    have HP2 := HP.out
    rw [Int.toNat_natCast, ma1_] at HP2
    have HP3 := Lib.hid HP2
    have HW3 := Lib.hid (HW.out.setCell (p := ⟨go, i, none⟩) hgo (.int .i64 (M1 i c)))
    clear HP2 HP sr sf
    go_roundw
    case rel => exact ⟨i + 1, Qa, by go_num, HP3, Lib.hid (fun i' h1 h2 => by omega), HW3⟩
    case measure => simp [intOf]; omega
  go_wp2
  go_loop [7] (fun v => ∃ r : Nat, c ≤ r ∧ r ≤ R ∧ v = .int .i64 r ∧ Hid (∀ i, c ≤ i → i < r → M1 i c = 0)) (fun v => R - (intOf v).toNat)
  case atStart => exact ⟨c, Nat.le_refl _, hcR, rfl, Lib.hid (fun i h1 h2 => by omega)⟩
  case round =>
   obtain ⟨r, hr1, hr2, rfl, HZ⟩ := hrel
   by_cases hrR : r < R
   rotate_left
   ·have hb : ((r : Int) == (R : Int)) = true := beq_iff_eq.2 Qa
    have hs := Lib.hid (je1_ (n := n) HG.out (by have := rp_ hr1 hr2 HZ.out (fun h => absurd h hrR); rw [this]; omega) hcn)
    go_wp2
    go_ret2
    exact ⟨_, by rw [hs.out]; rfl, by rw [hs.out]; exact Kd.vf_ _ _ _ _ _, HB.out⟩
   have fo := HM.out.out r hrR
   have fe := HM.out.cel r c hrR Qa
   by_cases hz : M1 r c = 0
   ·have hb : ((M1 r c) == 0) = true := beq_iff_eq.2 hz
    have HZ1 := Lib.hid hz
    clear hz
    go_wp2
    go_round
    case rel => exact ⟨r + 1, Qa, Qa, by go_num, Lib.hid (fun i h1 h2 => by rcases Nat.lt_or_ge i r with h3 | h3; exact HZ.out i h1 h3; rw [show i = r from by omega]; exact HZ1.out)⟩
    case measure => simp [intOf]; omega
   have hb : ((M1 r c) == 0) = false := beq_eq_false_iff_ne.2 hz
   have HZ1 := Lib.hid hz
   clear hz
   go_wp2
   have HM1 := Lib.hid (HM.out.drew)
   have hcR2 : c < R := by omega
   have HB1 := Lib.hid (ca_ HB.out)
   refine ei_ (n := 16) (S := fun w' => w'.cell? ⟨g, r, none⟩ = some (.slice (some ⟨h r, 0, none⟩) (n + 1) (cc r)) ∧ w'.cell? ⟨g, c, none⟩ = some (.slice (some ⟨h c, 0, none⟩) (n + 1) (cc c))) (ds := [13, 15]) #[false, false, false, false, false, false, false, false, false, false, false, false, false, false, false, false] Qb rfl rfl ⟨HM1.out.out r hrR, HM1.out.out c Qa⟩ (fun hHeld => ?_)
   generalize wo.drew = w1 at HM1 HB1 hHeld ⊢
   have sr := HM1.out.out c Qa
   have sf := HM1.out.fro c Qa
   have sg := HM1.out.fro r hrR
   obtain ⟨vr, hvr⟩ := hs_ (HM1.out.out r hrR) ⟨g, c, none⟩ (.slice (some ⟨h r, 0, none⟩) (n + 1) (cc r))
   refine qc_ (i := 0) (N := some 47) (v := ?_) (a' := ?_) #[true, false, false, false, false, false, false, false, false, false, false, false, false, false, false, false] rfl rfl Qb Qe (Or.inl ⟨by rfl, ?_⟩) ?_ ?_
   rotate_left
   ·exact Qg
   rotate_left
   ·exact Qd
   refine qc_ (i := 1) (N := some 48) (v := ?_) (a' := ?_) #[true, true, false, false, false, false, false, false, false, false, false, false, false, false, false, false] rfl rfl Qb Qe (Or.inl ⟨by rfl, ?_⟩) ?_ ?_
   rotate_left
   ·exact Qg
   rotate_left
   ·exact Qd
   refine qc_ (i := 2) (N := some 49) (v := ?_) (a' := ?_) #[true, true, true, false, false, false, false, false, false, false, false, false, false, false, false, false] rfl rfl Qb Qe (Or.inl ⟨by rfl, ?_⟩) ?_ ?_
   rotate_left
   ·exact Qg
   rotate_left
   ·exact Qd
   refine qc_ (i := 3) (N := some 50) (v := ?_) (a' := ?_) #[true, true, true, true, false, false, false, false, false, false, false, false, false, false, false, false] rfl rfl Qb Qe (Or.inl ⟨by rfl, ?_⟩) ?_ ?_
   rotate_left
   ·exact Qg
   rotate_left
   ·exact Qd
   refine qc_ (i := 4) (N := some 51) (v := ?_) (a' := ?_) #[true, true, true, true, true, false, false, false, false, false, false, false, false, false, false, false] rfl rfl Qb Qe (Or.inl ⟨by rfl, ?_⟩) ?_ ?_
   rotate_left
   ·exact Qg
   rotate_left
   ·exact Qd
   refine qc_ (i := 5) (N := some 52) (v := ?_) (a' := ?_) #[true, true, true, true, true, true, false, false, false, false, false, false, false, false, false, false] rfl rfl Qb Qe (Or.inl ⟨by rfl, ?_⟩) ?_ ?_
   rotate_left
   ·exact Qg
   rotate_left
   ·exact Qd
   refine qc_ (i := 6) (N := some 53) (v := ?_) (a' := ?_) #[true, true, true, true, true, true, true, false, false, false, false, false, false, false, false, false] rfl rfl Qb Qe (Or.inl ⟨by rfl, ?_⟩) ?_ ?_
   rotate_left
   ·exact Qg
   rotate_left
   ·exact Qd
   refine qc_ (i := 8) (N := some 55) (v := ?_) (a' := ?_) #[true, true, true, true, true, true, true, false, true, false, false, false, false, false, false, false] rfl rfl Qb Qe (Or.inl ⟨by rfl, ?_⟩) ?_ ?_
   rotate_left
   ·exact Qg
   rotate_left
   ·exact Qd
   refine qc_ (i := 9) (N := some 56) (v := ?_) (a' := ?_) #[true, true, true, true, true, true, true, false, true, true, false, false, false, false, false, false] rfl rfl Qb Qe (Or.inl ⟨by rfl, ?_⟩) ?_ ?_
   rotate_left
   ·exact Qg
   rotate_left
   ·exact Qd
   refine qc_ (i := 10) (N := some 57) (v := ?_) (a' := ?_) #[true, true, true, true, true, true, true, false, true, true, true, false, false, false, false, false] rfl rfl Qb Qe (Or.inl ⟨by rfl, ?_⟩) ?_ ?_
   rotate_left
   ·exact Qg
   rotate_left
   ·exact Qd
   refine wf_ (i := 7) (N := some 54) (v := ?_) (a' := ?_) #[true, true, true, true, true, true, true, true, true, true, true, false, false, false, false, false] rfl rfl Qb Qe (Or.inl ⟨by rfl, ?_⟩) hHeld ?_ ?_
   rotate_left
   ·exact Xm
   rotate_left
   ·exact Qd
   refine wf_ (i := 11) (N := some 58) (v := ?_) (a' := ?_) #[true, true, true, true, true, true, true, true, true, true, true, true, false, false, false, false] rfl rfl Qb Qe (Or.inl ⟨by rfl, ?_⟩) hHeld ?_ ?_
   rotate_left
   ·exact Xm
   rotate_left
   ·exact Qd
   refine qc_ (i := 12) (N := some 59) (v := ?_) (a' := ?_) #[true, true, true, true, true, true, true, true, true, true, true, true, true, false, false, false] rfl rfl Qb Qe (Or.inl ⟨by rfl, ?_⟩) ?_ ?_
   rotate_left
   ·exact Qg
   rotate_left
   ·exact Qd
   refine an_ (i := 13) (N := none) #[true, true, true, true, true, true, true, true, true, true, true, true, true, true, false, false] rfl rfl Qb Qc (fun K hK => ?_)
   refine em_ (w1 := ?_) (by rfl) rfl ?_ ?_
   rotate_left
   ·go_simp
    rfl
   refine hK.out _ _ ?_
   clear hK K
   refine qc_ (i := 14) (N := some 60) (v := ?_) (a' := ?_) #[true, true, true, true, true, true, true, true, true, true, true, true, true, true, true, false] rfl rfl Qb Qe (Or.inl ⟨by rfl, ?_⟩) ?_ ?_
   rotate_left
   ·exact Qg
   rotate_left
   ·exact Qd
   refine an_ (i := 15) (N := none) #[true, true, true, true, true, true, true, true, true, true, true, true, true, true, true, true] rfl rfl Qb Qc (fun K hK => ?_)
   refine em_ (w1 := ?_) (by rfl) rfl ?_ ?_
   rotate_left
   ·go_simp
    rfl
   refine hK.out _ _ ?_
   clear hK K
   refine yk_ Qb ?_
   have HM2 := Lib.hid (Mat.swap HM1.out c r hcR2 hrR)
   have HB2 := Lib.hid ((HB1.out.setCell (p := ⟨g, c, none⟩) HM1.out.lg (.slice (some ⟨h r, 0, none⟩) (n + 1) (cc r))).setCell (p := ⟨g, r, none⟩) HM1.out.lg (.slice (some ⟨h c, 0, none⟩) (n + 1) (cc c)))
   clear sr sf sg hvr
   generalize (w1.setCell ⟨g, c, none⟩ (.slice (some ⟨h r, 0, none⟩) (n + 1) (cc r))).setCell ⟨g, r, none⟩ (.slice (some ⟨h c, 0, none⟩) (n + 1) (cc c)) = w2 at HM2 HB2 ⊢
   obtain ⟨h2, hh2⟩ : ∃ x, x = xg_ h c r := ⟨_, rfl⟩
   obtain ⟨cc2, hcc2⟩ : ∃ x, x = xg_ cc c r := ⟨_, rfl⟩
   obtain ⟨M2, hM2⟩ : ∃ x, x = xg_ M1 c r := ⟨_, rfl⟩
   obtain ⟨b, hbb⟩ : ∃ x, x = invI (M2 c c) := ⟨_, rfl⟩
   rw [← hh2, ← hcc2, ← hM2] at HM2
   have HE := Lib.hid hM2
   have HI := Lib.hid hbb
   clear hM2 hbb hh2 hcc2 hHeld HM1 HB1
   have fo2 := HM2.out.out c hcR2
   have fe2 := HM2.out.cel c c hcR2 Qa
   have mi := lv_
   go_wp2_with (first | (go_at_call 157; refine (sq_.calls _ _ _ rfl).mono ?_; rintro e w' ⟨rfl, ⟨nd, rfl⟩⟩; rw [← HI.out]))
   have HM3 := Lib.hid (HM2.out.drewN nd)
   have HB3 := Lib.hid (aa_ HB2.out nd)
   clear HM2 HB2 fo2 fe2 mi
   generalize w2.drewN nd = w3 at HM3 HB3 ⊢
   go_loopw [75] (fun v wr => ∃ k : Nat, k ≤ n + 1 ∧ v = .int .i64 k ∧ Hid (Mat wr base g R (n + 1) h2 cc2 (vi_ M2 c b k)) ∧ Hid (Below base w wr)) (fun v _ => n + 1 - (intOf v).toNat)
   case atStart => exact ⟨0, Nat.zero_le _, rfl, Lib.hid (by rw [fp_]; exact HM3.out), HB3⟩
   case round =>
    clear HM3 HB3
    obtain ⟨k, hk, rfl, HM, HB⟩ := hrel
    obtain ⟨w4, rfl⟩ : ∃ x : World, x = wr := ⟨_, rfl⟩
    by_cases hkn : k < n + 1
    ·go_wp2
     have HM1 := Lib.hid (HM.out.drew)
     have HB1 := Lib.hid (ca_ HB.out)
     have fe : w4.drew.cell? ⟨h2 c, k, none⟩ = some (.int .i64 (M2 c k)) := by have := HM1.out.cel c k hcR2 hkn; rwa [xs_] at this
     have mt := ms_
     refine ei_ (n := 17) (S := fun w' => w'.cell? ⟨g, c, none⟩ = some (.slice (some ⟨h2 c, 0, none⟩) (n + 1) (cc2 c)) ∧ w'.cell? ⟨h2 c, k, none⟩ = some (.int .i64 (M2 c k))) (ds := [16]) #[false, false, false, false, false, false, false, false, false, false, false, false, false, false, false, false, false] Qb rfl rfl ⟨HM1.out.out c hcR2, fe⟩ (fun hHeld => ?_)
     generalize w4.drew = w5 at HM1 HB1 hHeld ⊢
     clear fe
     refine qc_ (i := 0) (N := some 78) (v := ?_) (a' := ?_) #[true, false, false, false, false, false, false, false, false, false, false, false, false, false, false, false, false] rfl rfl Qb Qe (Or.inl ⟨by rfl, ?_⟩) ?_ ?_
     rotate_left
     ·exact Qg
     rotate_left
     ·exact Qd
     refine qc_ (i := 1) (N := some 79) (v := ?_) (a' := ?_) #[true, true, false, false, false, false, false, false, false, false, false, false, false, false, false, false, false] rfl rfl Qb Qe (Or.inl ⟨by rfl, ?_⟩) ?_ ?_
     rotate_left
     ·exact Qg
     rotate_left
     ·exact Qd
     refine qc_ (i := 2) (N := some 80) (v := ?_) (a' := ?_) #[true, true, true, false, false, false, false, false, false, false, false, false, false, false, false, false, false] rfl rfl Qb Qe (Or.inl ⟨by rfl, ?_⟩) ?_ ?_
     rotate_left
     ·exact Qg
     rotate_left
     ·exact Qd
     refine qc_ (i := 4) (N := some 82) (v := ?_) (a' := ?_) #[true, true, true, false, true, false, false, false, false, false, false, false, false, false, false, false, false] rfl rfl Qb Qe (Or.inl ⟨by rfl, ?_⟩) ?_ ?_
     rotate_left
     ·exact Qg
     rotate_left
     ·exact Qd
     refine qc_ (i := 5) (N := some 83) (v := ?_) (a' := ?_) #[true, true, true, false, true, true, false, false, false, false, false, false, false, false, false, false, false] rfl rfl Qb Qe (Or.inl ⟨by rfl, ?_⟩) ?_ ?_
     rotate_left
     ·exact Qg
     rotate_left
     ·exact Qd
     refine qc_ (i := 6) (N := some 84) (v := ?_) (a' := ?_) #[true, true, true, false, true, true, true, false, false, false, false, false, false, false, false, false, false] rfl rfl Qb Qe (Or.inl ⟨by rfl, ?_⟩) ?_ ?_
     rotate_left
     ·exact Qg
     rotate_left
     ·exact Qd
     refine qc_ (i := 7) (N := some 85) (v := ?_) (a' := ?_) #[true, true, true, false, true, true, true, true, false, false, false, false, false, false, false, false, false] rfl rfl Qb Qe (Or.inl ⟨by rfl, ?_⟩) ?_ ?_
     rotate_left
     ·exact Qg
     rotate_left
     ·exact Qd
     refine qc_ (i := 9) (N := some 87) (v := ?_) (a' := ?_) #[true, true, true, false, true, true, true, true, false, true, false, false, false, false, false, false, false] rfl rfl Qb Qe (Or.inl ⟨by rfl, ?_⟩) ?_ ?_
     rotate_left
     ·exact Qg
     rotate_left
     ·exact Qd
     refine qc_ (i := 13) (N := some 91) (v := ?_) (a' := ?_) #[true, true, true, false, true, true, true, true, false, true, false, false, false, true, false, false, false] rfl rfl Qb Qe (Or.inl ⟨by rfl, ?_⟩) ?_ ?_
     rotate_left
     ·exact Qg
     rotate_left
     ·exact Qd
     refine wf_ (i := 3) (N := some 81) (v := ?_) (a' := ?_) #[true, true, true, true, true, true, true, true, false, true, false, false, false, true, false, false, false] rfl rfl Qb Qe (Or.inl ⟨by rfl, ?_⟩) hHeld ?_ ?_
     rotate_left
     ·exact Xm
     rotate_left
     ·exact Qd
     refine wf_ (i := 8) (N := some 86) (v := ?_) (a' := ?_) #[true, true, true, true, true, true, true, true, true, true, false, false, false, true, false, false, false] rfl rfl Qb Qe (Or.inl ⟨by rfl, ?_⟩) hHeld ?_ ?_
     rotate_left
     ·exact Xm
     rotate_left
     ·exact Qd
     refine qc_ (i := 10) (N := some 88) (v := ?_) (a' := ?_) #[true, true, true, true, true, true, true, true, true, true, true, false, false, true, false, false, false] rfl rfl Qb Qe (Or.inl ⟨by rfl, ?_⟩) ?_ ?_
     rotate_left
     ·exact Qg
     rotate_left
     ·exact Qd
     refine wf_ (i := 11) (N := some 89) (v := ?_) (a' := ?_) #[true, true, true, true, true, true, true, true, true, true, true, true, false, true, false, false, false] rfl rfl Qb Qe (Or.inl ⟨by rfl, ?_⟩) hHeld ?_ ?_
     rotate_left
     ·exact Xm
     rotate_left
     ·exact Qd
     refine qc_ (i := 12) (N := some 90) (v := ?_) (a' := ?_) #[true, true, true, true, true, true, true, true, true, true, true, true, true, true, false, false, false] rfl rfl Qb Qe (Or.inl ⟨by rfl, ?_⟩) ?_ ?_
     rotate_left
     ·exact Qg
     rotate_left
     ·exact Qd
     refine one_ (i := 14) (N := some 92) #[true, true, true, true, true, true, true, true, true, true, true, true, true, true, true, false, false] rfl rfl Qb Qc (fun K hK => ?_)
     refine af1_ 116 #[.int .i64 (M2 c k), .int .i64 b] (by rfl) rfl (by go_simp) ?_
     with_reducible refine (ch_.calls (M2 c k) b _ _ rfl).mono ?_
     rintro e w' ⟨rfl, ⟨nd, rfl⟩⟩
     refine ⟨_, rfl, ?_⟩
     have HM5 := Lib.hid (HM1.out.drewN nd)
     have HB5 := Lib.hid (aa_ HB1.out nd)
     have sr := HM5.out.cel c k hcR2 hkn
     have sf := HM5.out.frc c k hcR2 hkn
     refine hK.out _ _ ⟨hHeld.1, hHeld.2⟩ (fun hHeld => ?_)
     clear hK K
     refine ug_ (a' := ?_) ?_ ?_
     rotate_left
     ·show Act.put _ (some 92) _ = _
      simp only [Act.put, List.setIfInBounds_toArray, List.set_cons_zero, List.set_cons_succ, yb_, ac_]
      rfl
     refine qc_ (i := 15) (N := some 93) (v := ?_) (a' := ?_) #[true, true, true, true, true, true, true, true, true, true, true, true, true, true, true, true, false] rfl rfl Qb Qe (Or.inl ⟨by rfl, ?_⟩) ?_ ?_
     rotate_left
     ·exact Qg
     rotate_left
     ·exact Qd
     refine an_ (i := 16) (N := none) #[true, true, true, true, true, true, true, true, true, true, true, true, true, true, true, true, true] rfl rfl Qb Qc (fun K hK => ?_)
     refine em_ (w1 := ?_) (by rfl) rfl ?_ ?_
     rotate_left
     ·go_simp
      rfl
     refine hK.out _ _ ?_
     clear hK K
     refine yk_ Qb ?_
     have HM6 := Lib.hid (Mat.set HM5.out c k hcR2 hkn (mulI (M2 c k) b))
     have HB6 := Lib.hid (HB5.out.setCell (p := ⟨h2 c, k, none⟩) (HM5.out.lo c hcR2) (.int .i64 (mulI (M2 c k) b)))
     clear sr sf HM5 HB5 hHeld HM1 HB1
     generalize (w5.drewN nd).setCell ⟨h2 c, k, none⟩ (.int .i64 (mulI (M2 c k) b)) = w6 at HM6 HB6 ⊢
     go_wp2
     go_roundw
     case rel => exact ⟨k + 1, Qa, by go_num, Lib.hid (by rw [← ep_]; exact HM6.out), HB6⟩
     case measure => simp [intOf]; omega
    obtain rfl : k = n + 1 := by omega
    obtain ⟨M3, hM3⟩ : ∃ x, x = vi_ M2 c b (n + 1) := ⟨_, rfl⟩
    rw [← hM3] at HM
    have HF := Lib.hid hM3
    clear hM3
    go_wp2
    go_loopw [97] (fun v wr => ∃ i : Nat, i ≤ R ∧ v = .int .i64 i ∧ Hid (Mat wr base g R (n + 1) h2 cc2 (ri_ M3 c i)) ∧ Hid (Below base w wr)) (fun v _ => R - (intOf v).toNat)
    case atStart => exact ⟨0, Nat.zero_le _, rfl, Lib.hid (by rw [nq_]; exact HM.out), HB⟩
    case round =>
     clear HM HB
     obtain ⟨i, hi, rfl, HM, HB⟩ := hrel
     obtain ⟨w7, rfl⟩ : ∃ x : World, x = wr := ⟨_, rfl⟩
     by_cases hiR : i < R
     rotate_left
     ·obtain rfl : i = R := by omega
      go_wp2
      go_roundw
      case rel => exact ⟨c + 1, Qa, Qa, by go_num, h2, cc2, ur_ M1 c r, Lib.hid (by rw [gjI, HG.out]; have hp := rp_ hr1 hr2 HZ.out (fun _ => HZ1.out); simp only [hp]; rw [if_neg Qa]), Lib.hid (HM.out.congr (fun i' k' hi' hk' => by rw [ks_ M3 (fl_ M2 c b) c i (n + 1) (fun i k hk => by rw [HF.out]; exact cr_ M2 c b (n + 1) i k hk) Qa i' k' hi' hk']; unfold ur_; rw [← HE.out, ← HI.out])), HB⟩
      case measure => simp [intOf]; omega
     have fo := HM.out.out i hiR
     have fe : w7.cell? ⟨h2 i, c, none⟩ = some (.int .i64 (M3 i c)) := by have := HM.out.cel i c hiR Qa; rwa [wl_] at this
     by_cases hic : i = c
     ·have hb : ((i : Int) != (c : Int)) = false := by simp; omega
      have HK := Lib.hid (hl_ M3 c i (.inl hic))
      clear hic
      go_wp2
      go_roundw
      case rel => exact ⟨i + 1, Qa, by go_num, Lib.hid (by rw [HK.out]; exact HM.out), HB⟩
      case measure => simp [intOf]; omega
     have hb : ((i : Int) != (c : Int)) = true := by simp; omega
     by_cases hz : M3 i c = 0
     ·have hb2 : ((M3 i c) != 0) = false := bne_eq_false_iff_eq.2 hz
      have HK := Lib.hid (hl_ M3 c i (.inr hz))
      clear hz
      go_wp2
      go_roundw
      case rel => exact ⟨i + 1, Qa, by go_num, Lib.hid (by rw [HK.out]; exact HM.out), HB⟩
      case measure => simp [intOf]; omega
     have hb2 : ((M3 i c) != 0) = true := bne_iff_ne.2 hz
     have HK := Lib.hid hz
     clear hz
     go_wp2
     go_loopw [120] (fun v wr => ∃ k : Nat, k ≤ n + 1 ∧ v = .int .i64 k ∧ Hid (Mat wr base g R (n + 1) h2 cc2 (sh_ M3 c i k)) ∧ Hid (Below base w wr)) (fun v _ => n + 1 - (intOf v).toNat)
     case atStart => exact ⟨0, Nat.zero_le _, rfl, Lib.hid (by rw [yo_]; exact HM.out), HB⟩
     case round =>
      clear HM HB fo fe
      obtain ⟨k, hk, rfl, HM, HB⟩ := hrel
      obtain ⟨w8, rfl⟩ : ∃ x : World, x = wr := ⟨_, rfl⟩
      by_cases hkn : k < n + 1
      rotate_left
      ·obtain rfl : k = n + 1 := by omega
       go_wp2
       go_roundw
       case rel => exact ⟨i + 1, Qa, by go_num, Lib.hid (HM.out.congr (fun i' k' _ hk' => mq_ M3 c i (n + 1) hic HK.out i' k' hk')), HB⟩
       case measure => simp [intOf]; omega
      go_wp2
      have HM1 := Lib.hid (HM.out.drew)
      have HB1 := Lib.hid (ca_ HB.out)
      have fi : w8.drew.cell? ⟨h2 i, k, none⟩ = some (.int .i64 (M3 i k)) := by have := HM1.out.cel i k hiR hkn; rwa [hm_] at this
      have fc : w8.drew.cell? ⟨h2 c, k, none⟩ = some (.int .i64 (M3 c k)) := by have := HM1.out.cel c k hcR2 hkn; rwa [gl_ _ _ _ _ _ hic] at this
      have mt := ms_
      have mp := od1_
      refine ei_ (n := 26) (S := fun w' => w'.cell? ⟨g, i, none⟩ = some (.slice (some ⟨h2 i, 0, none⟩) (n + 1) (cc2 i)) ∧ w'.cell? ⟨h2 i, k, none⟩ = some (.int .i64 (M3 i k)) ∧ w'.cell? ⟨g, c, none⟩ = some (.slice (some ⟨h2 c, 0, none⟩) (n + 1) (cc2 c)) ∧ w'.cell? ⟨h2 c, k, none⟩ = some (.int .i64 (M3 c k))) (ds := [25]) #[false, false, false, false, false, false, false, false, false, false, false, false, false, false, false, false, false, false, false, false, false, false, false, false, false, false] Qb rfl rfl ⟨HM1.out.out i hiR, fi, HM1.out.out c hcR2, fc⟩ (fun hHeld => ?_)
      generalize w8.drew = w9 at HM1 HB1 hHeld ⊢
      clear fi fc
      refine qc_ (i := 0) (N := some 123) (v := ?_) (a' := ?_) #[true, false, false, false, false, false, false, false, false, false, false, false, false, false, false, false, false, false, false, false, false, false, false, false, false, false] rfl rfl Qb Qe (Or.inl ⟨by rfl, ?_⟩) ?_ ?_
      rotate_left
      ·exact Qg
      rotate_left
      ·exact Qd
      refine qc_ (i := 1) (N := some 124) (v := ?_) (a' := ?_) #[true, true, false, false, false, false, false, false, false, false, false, false, false, false, false, false, false, false, false, false, false, false, false, false, false, false] rfl rfl Qb Qe (Or.inl ⟨by rfl, ?_⟩) ?_ ?_
      rotate_left
      ·exact Qg
      rotate_left
      ·exact Qd
      refine qc_ (i := 2) (N := some 125) (v := ?_) (a' := ?_) #[true, true, true, false, false, false, false, false, false, false, false, false, false, false, false, false, false, false, false, false, false, false, false, false, false, false] rfl rfl Qb Qe (Or.inl ⟨by rfl, ?_⟩) ?_ ?_
      rotate_left
      ·exact Qg
      rotate_left
      ·exact Qd
      refine qc_ (i := 4) (N := some 127) (v := ?_) (a' := ?_) #[true, true, true, false, true, false, false, false, false, false, false, false, false, false, false, false, false, false, false, false, false, false, false, false, false, false] rfl rfl Qb Qe (Or.inl ⟨by rfl, ?_⟩) ?_ ?_
      rotate_left
      ·exact Qg
      rotate_left
      ·exact Qd
      refine qc_ (i := 5) (N := some 128) (v := ?_) (a' := ?_) #[true, true, true, false, true, true, false, false, false, false, false, false, false, false, false, false, false, false, false, false, false, false, false, false, false, false] rfl rfl Qb Qe (Or.inl ⟨by rfl, ?_⟩) ?_ ?_
      rotate_left
      ·exact Qg
      rotate_left
      ·exact Qd
      refine qc_ (i := 6) (N := some 129) (v := ?_) (a' := ?_) #[true, true, true, false, true, true, true, false, false, false, false, false, false, false, false, false, false, false, false, false, false, false, false, false, false, false] rfl rfl Qb Qe (Or.inl ⟨by rfl, ?_⟩) ?_ ?_
      rotate_left
      ·exact Qg
      rotate_left
      ·exact Qd
      refine qc_ (i := 7) (N := some 130) (v := ?_) (a' := ?_) #[true, true, true, false, true, true, true, true, false, false, false, false, false, false, false, false, false, false, false, false, false, false, false, false, false, false] rfl rfl Qb Qe (Or.inl ⟨by rfl, ?_⟩) ?_ ?_
      rotate_left
      ·exact Qg
      rotate_left
      ·exact Qd
      refine qc_ (i := 9) (N := some 132) (v := ?_) (a' := ?_) #[true, true, true, false, true, true, true, true, false, true, false, false, false, false, false, false, false, false, false, false, false, false, false, false, false, false] rfl rfl Qb Qe (Or.inl ⟨by rfl, ?_⟩) ?_ ?_
      rotate_left
      ·exact Qg
      rotate_left
      ·exact Qd
      refine qc_ (i := 13) (N := some 136) (v := ?_) (a' := ?_) #[true, true, true, false, true, true, true, true, false, true, false, false, false, true, false, false, false, false, false, false, false, false, false, false, false, false] rfl rfl Qb Qe (Or.inl ⟨by rfl, ?_⟩) ?_ ?_
      rotate_left
      ·exact Qg
      rotate_left
      ·exact Qd
      refine qc_ (i := 14) (N := some 137) (v := ?_) (a' := ?_) #[true, true, true, false, true, true, true, true, false, true, false, false, false, true, true, false, false, false, false, false, false, false, false, false, false, false] rfl rfl Qb Qe (Or.inl ⟨by rfl, ?_⟩) ?_ ?_
      rotate_left
      ·exact Qg
      rotate_left
      ·exact Qd
      refine qc_ (i := 15) (N := some 138) (v := ?_) (a' := ?_) #[true, true, true, false, true, true, true, true, false, true, false, false, false, true, true, true, false, false, false, false, false, false, false, false, false, false] rfl rfl Qb Qe (Or.inl ⟨by rfl, ?_⟩) ?_ ?_
      rotate_left
      ·exact Qg
      rotate_left
      ·exact Qd
      refine qc_ (i := 16) (N := some 139) (v := ?_) (a' := ?_) #[true, true, true, false, true, true, true, true, false, true, false, false, false, true, true, true, true, false, false, false, false, false, false, false, false, false] rfl rfl Qb Qe (Or.inl ⟨by rfl, ?_⟩) ?_ ?_
      rotate_left
      ·exact Qg
      rotate_left
      ·exact Qd
      refine qc_ (i := 17) (N := some 140) (v := ?_) (a' := ?_) #[true, true, true, false, true, true, true, true, false, true, false, false, false, true, true, true, true, true, false, false, false, false, false, false, false, false] rfl rfl Qb Qe (Or.inl ⟨by rfl, ?_⟩) ?_ ?_
      rotate_left
      ·exact Qg
      rotate_left
      ·exact Qd
      refine qc_ (i := 19) (N := some 142) (v := ?_) (a' := ?_) #[true, true, true, false, true, true, true, true, false, true, false, false, false, true, true, true, true, true, false, true, false, false, false, false, false, false] rfl rfl Qb Qe (Or.inl ⟨by rfl, ?_⟩) ?_ ?_
      rotate_left
      ·exact Qg
      rotate_left
      ·exact Qd
      refine wf_ (i := 3) (N := some 126) (v := ?_) (a' := ?_) #[true, true, true, true, true, true, true, true, false, true, false, false, false, true, true, true, true, true, false, true, false, false, false, false, false, false] rfl rfl Qb Qe (Or.inl ⟨by rfl, ?_⟩) hHeld ?_ ?_
      rotate_left
      ·exact Xz
      rotate_left
      ·exact Qd
      refine wf_ (i := 8) (N := some 131) (v := ?_) (a' := ?_) #[true, true, true, true, true, true, true, true, true, true, false, false, false, true, true, true, true, true, false, true, false, false, false, false, false, false] rfl rfl Qb Qe (Or.inl ⟨by rfl, ?_⟩) hHeld ?_ ?_
      rotate_left
      ·exact Xz
      rotate_left
      ·exact Qd
      refine qc_ (i := 10) (N := some 133) (v := ?_) (a' := ?_) #[true, true, true, true, true, true, true, true, true, true, true, false, false, true, true, true, true, true, false, true, false, false, false, false, false, false] rfl rfl Qb Qe (Or.inl ⟨by rfl, ?_⟩) ?_ ?_
      rotate_left
      ·exact Qg
      rotate_left
      ·exact Qd
      refine wf_ (i := 11) (N := some 134) (v := ?_) (a' := ?_) #[true, true, true, true, true, true, true, true, true, true, true, true, false, true, true, true, true, true, false, true, false, false, false, false, false, false] rfl rfl Qb Qe (Or.inl ⟨by rfl, ?_⟩) hHeld ?_ ?_
      rotate_left
      ·exact Xz
      rotate_left
      ·exact Qd
      refine qc_ (i := 12) (N := some 135) (v := ?_) (a' := ?_) #[true, true, true, true, true, true, true, true, true, true, true, true, true, true, true, true, true, true, false, true, false, false, false, false, false, false] rfl rfl Qb Qe (Or.inl ⟨by rfl, ?_⟩) ?_ ?_
      rotate_left
      ·exact Qg
      rotate_left
      ·exact Qd
      refine wf_ (i := 18) (N := some 141) (v := ?_) (a' := ?_) #[true, true, true, true, true, true, true, true, true, true, true, true, true, true, true, true, true, true, true, true, false, false, false, false, false, false] rfl rfl Qb Qe (Or.inl ⟨by rfl, ?_⟩) hHeld ?_ ?_
      rotate_left
      ·exact Xz
      rotate_left
      ·exact Qd
      refine qc_ (i := 20) (N := some 143) (v := ?_) (a' := ?_) #[true, true, true, true, true, true, true, true, true, true, true, true, true, true, true, true, true, true, true, true, true, false, false, false, false, false] rfl rfl Qb Qe (Or.inl ⟨by rfl, ?_⟩) ?_ ?_
      rotate_left
      ·exact Qg
      rotate_left
      ·exact Qd
      refine wf_ (i := 21) (N := some 144) (v := ?_) (a' := ?_) #[true, true, true, true, true, true, true, true, true, true, true, true, true, true, true, true, true, true, true, true, true, true, false, false, false, false] rfl rfl Qb Qe (Or.inl ⟨by rfl, ?_⟩) hHeld ?_ ?_
      rotate_left
      ·exact Xz
      rotate_left
      ·exact Qd
      refine one_ (i := 22) (N := some 145) #[true, true, true, true, true, true, true, true, true, true, true, true, true, true, true, true, true, true, true, true, true, true, true, false, false, false] rfl rfl Qb Qc (fun K hK => ?_)
      refine af1_ 116 #[.int .i64 (M3 i c), .int .i64 (M3 c k)] (by rfl) rfl (by go_simp) ?_
      with_reducible refine (ch_.calls (M3 i c) (M3 c k) _ _ rfl).mono ?_
      rintro e w' ⟨rfl, ⟨nd, rfl⟩⟩
      refine ⟨_, rfl, ?_⟩
      refine hK.out _ _ ⟨hHeld.1, hHeld.2.1, hHeld.2.2.1, hHeld.2.2.2⟩ (fun hHeld => ?_)
      clear hK K
      refine ug_ (a' := ?_) ?_ ?_
      rotate_left
      ·show Act.put _ (some 145) _ = _
       simp only [Act.put, List.setIfInBounds_toArray, List.set_cons_zero, List.set_cons_succ, yb_, ac_]
       rfl
      refine one_ (i := 23) (N := some 146) #[true, true, true, true, true, true, true, true, true, true, true, true, true, true, true, true, true, true, true, true, true, true, true, true, false, false] rfl rfl Qb Qc (fun K hK => ?_)
      refine af1_ 115 #[.int .i64 (M3 i k), .int .i64 (mulI (M3 i c) (M3 c k))] (by rfl) rfl (by go_simp) ?_
      with_reducible refine (ii_.calls (M3 i k) (mulI (M3 i c) (M3 c k)) _ _ rfl).mono ?_
      rintro e w' ⟨rfl, ⟨nd2, rfl⟩⟩
      refine ⟨_, rfl, ?_⟩
      have HM5 := Lib.hid ((HM1.out.drewN nd).drewN nd2)
      have HB5 := Lib.hid (aa_ (aa_ HB1.out nd) nd2)
      generalize (w9.drewN nd).drewN nd2 = w10 at HM5 HB5 ⊢
      have sr := HM5.out.cel i k hiR hkn
      have sf := HM5.out.frc i k hiR hkn
      refine hK.out _ _ ⟨HM5.out.out i hiR, by have := HM5.out.cel i k hiR hkn; rwa [hm_] at this, HM5.out.out c hcR2, by have := HM5.out.cel c k hcR2 hkn; rwa [gl_ _ _ _ _ _ hic] at this⟩ (fun hHeld => ?_)
      clear hK K
      refine ug_ (a' := ?_) ?_ ?_
      rotate_left
      ·show Act.put _ (some 146) _ = _
       simp only [Act.put, List.setIfInBounds_toArray, List.set_cons_zero, List.set_cons_succ, yb_, ac_]
       rfl
      refine qc_ (i := 24) (N := some 147) (v := ?_) (a' := ?_) #[true, true, true, true, true, true, true, true, true, true, true, true, true, true, true, true, true, true, true, true, true, true, true, true, true, false] rfl rfl Qb Qe (Or.inl ⟨by rfl, ?_⟩) ?_ ?_
      rotate_left
      ·exact Qg
      rotate_left
      ·exact Qd
      refine an_ (i := 25) (N := none) #[true, true, true, true, true, true, true, true, true, true, true, true, true, true, true, true, true, true, true, true, true, true, true, true, true, true] rfl rfl Qb Qc (fun K hK => ?_)
      refine em_ (w1 := ?_) (by rfl) rfl ?_ ?_
      rotate_left
      ·go_simp
       rfl
      refine hK.out _ _ ?_
      clear hK K
      refine yk_ Qb ?_
      have HM6 := Lib.hid (Mat.set HM5.out i k hiR hkn (xorI (M3 i k) (mulI (M3 i c) (M3 c k))))
      have HB6 := Lib.hid (HB5.out.setCell (p := ⟨h2 i, k, none⟩) (HM5.out.lo i hiR) (.int .i64 (xorI (M3 i k) (mulI (M3 i c) (M3 c k)))))
      clear sr sf HM5 HB5 hHeld HM1 HB1
      generalize w10.setCell ⟨h2 i, k, none⟩ (.int .i64 (xorI (M3 i k) (mulI (M3 i c) (M3 c k)))) = w11 at HM6 HB6 ⊢
      go_wp2
      go_roundw
      case rel => exact ⟨k + 1, Qa, by go_num, Lib.hid (by rw [← xo_]; exact HM6.out), HB6⟩
      case measure => simp [intOf]; omega
end Go.Proofs.YtpkhgapifnjbeaaGreatDoor.G
end
section
namespace Go.Proofs.YtpkhgapifnjbeaaGreatDoor.Rs
open GF
def gsum : Nat → (Nat → GF) → GF
 | 0, _ => 0
 | n + 1, f => gsum n f + f n
theorem id_ {n : Nat} {f g : Nat → GF} (h : ∀ i, i < n → f i = g i) : gsum n f = gsum n g := by
 induction n with
 | zero => rfl
 | succ n ih => simp only [gsum]; rw [ih (fun i hi => h i Qa), h n Qa]
theorem cj_ (n : Nat) : gsum n (fun _ => 0) = 0 := by
 induction n with
 | zero => rfl
 | succ n ih => simp only [gsum]; rw [ih, add_zero]
theorem jl_ (n : Nat) (f g : Nat → GF) : gsum n (fun i => f i + g i) = gsum n f + gsum n g := by
 induction n with
 | zero => exact (add_zero 0).symm
 | succ n ih => simp only [gsum]; rw [ih]; ac_rfl
theorem ji_ (n : Nat) (c : GF) (f : Nat → GF) : gsum n (fun i => c * f i) = c * gsum n f := by
 induction n with
 | zero => exact (mul_zero c).symm
 | succ n ih => simp only [gsum]; rw [ih, mul_add]
theorem un_ (n m : Nat) (f : Nat → Nat → GF) : gsum n (fun i => gsum m (f i)) = gsum m (fun j => gsum n (fun i => f i j)) := by
 induction n with
 | zero => simp only [gsum]; rw [cj_]
 | succ n ih => simp only [gsum]; rw [ih, ← jl_]
theorem kl_ (n : Nat) (f : Nat → GF) (p : Nat) (hp : p < n) (h : ∀ i, i < n → i ≠ p → f i = 0) : gsum n f = f p := by
 induction n with
 | zero => omega
 | succ n ih =>
  simp only [gsum]
  by_cases e : p = n
  ·subst e
   rw [id_ (g := fun _ => 0) (fun i hi => h i Qa Qa), cj_, zero_add]
  ·rw [ih Qa (fun i hi hne => h i Qa hne), h n Qa (fun q => e q.symm), add_zero]
def vG (x : Int) : GF := if isEl x then toG x else 0
theorem vG_ofG (a : GF) : vG (ofG a) = a := by simp [vG, kh_, th_]
theorem ap_ {x : Int} (h : isEl x = true) : ofG (vG x) = x := by
 have := (le_ x).1 h
 simp [vG, h, bi_ this.1 this.2]
def psum (l : List Int) (j m : Nat) : GF := gsum m (fun i => vG (l.getD i 0) * ex (j * (l.length - 1 - i)))
def synI (l : List Int) : List Int := (List.range 6).map fun j => ofG (psum l (j + 1) l.length)
end Go.Proofs.YtpkhgapifnjbeaaGreatDoor.Rs
end
section
namespace Go.Proofs.YtpkhgapifnjbeaaGreatDoor.G
open RowKit Zw.PrintWords Zw.PrintLast Zw.PrintMore Rs
theorem bd1_ (C : Array Value) (xs : List Int) (i : Int) (h0 : 0 ≤ i) (h6 : i < 6) (hl : xs.length = 6) (hC : C = (nums .i64 xs).toArray) (W : World) :
  (Instr.index 88 (.agg C) (.int .i64 i)).run Tryz.prog W = .ok (.int .i64 (rd xs i)) W := by
 have hx : C[i.toNat]? = some (.int .i64 (rd xs i)) := by
  subst hC
  simp [nums, rd, List.getD_eq_getElem?_getD, List.getElem?_eq_getElem (show i.toNat < xs.length by omega)]
 have hi : 0 ≤ i ∧ i < 6 := ⟨h0, h6⟩
 simp [Instr.index, asIntOf, run_underlying Tryz.underlying88, hi, hx, go_sem]
theorem mul_mx (x : Int) (n : Nat) : mulI (mx x 0) (powI (n : Int)) = ofG (vG x * GF.ex n) := by
 have hp : powI (n : Int) = ofG (GF.ex n) := by
  unfold powI
  rw [show ((n : Int) % 31).toNat = n % 31 from by omega, ← GF.wu_]
 rw [hp]
 unfold mx
 by_cases h : x < 0
 ·rw [if_pos h, dl_]
  have : isEl x = false := by simp [isEl]; omega
  simp [vG, this, GF.zero_mul, qp_]
 rw [if_neg h]
 unfold mulI vG
 rw [kh_, th_]
 by_cases hx : isEl x = true
 ·simp [hx]
 ·simp [hx, GF.zero_mul, qp_]
def mixS (l : List Int) (i j : Nat) : List Int := (List.range 6).map fun j' => ofG (psum l (j' + 1) (if j' < j then i + 1 else i))
theorem ex_ (l : List Int) (i j : Nat) : (mixS l i j).length = 6 := by simp [mixS]
theorem fk1_ (l : List Int) (i j : Nat) (h : j < 6) : rd (mixS l i j) (j : Int) = ofG (psum l (j + 1) i) := by
 simp [mixS, rd, List.getD_eq_getElem?_getD, h]
theorem dg1_ (l : List Int) (i j : Nat) (h : j < 6) : (mixS l i j).set j (ofG (psum l (j + 1) (i + 1))) = mixS l i (j + 1) := by
 apply List.ext_getElem
 ·simp [mixS]
 intro k h1 h2
 rw [List.getElem_set]
 simp only [mixS, List.getElem_map, List.getElem_range]
 by_cases e : j = k
 ·subst e; simp
 rw [if_neg e]
 have : k < j + 1 ↔ k < j := by omega
 simp [this]
theorem cg1_ (l : List Int) (i : Nat) : mixS l i 6 = mixS l (i + 1) 0 := by
 apply List.ext_getElem
 ·simp [mixS]
 intro k h1 h2
 simp [mixS] at h1 ⊢
 simp [h1]
open Go.Proofs.YtpkhgapifnjbeaaGreatDoor.S in
theorem syn_l1 (l : List Int) (hl : l.length ≤ 15) (i : Nat) (hi : i < l.length) : ∀ (d k j : Nat), j + d = 6 →
  xb_.l1 (d + 1 + k) l (mixS l i j) i (rd l i) l l.length i j = xb_.l0 k l (mixS l (i + 1) 0) l l.length (wrap64 ((i : Int) + 1)) := by
 intro d
 induction d with
 | zero =>
  intro k j hj
  obtain rfl : j = 6 := by omega
  rw [show 0 + 1 + k = k + 1 from by omega]
  simp only [xb_.l1]
  rw [if_neg Qc, cg1_]
 | succ d ih =>
  intro k j hj
  rw [show d + 1 + 1 + k = (d + 1 + k) + 1 from by omega]
  simp only [xb_.l1]
  rw [if_pos Qa, if_pos Qa, if_pos (by rw [ex_]; omega)]
  have e1 : wrap64 (wrap64 ((j : Int) + 1) * wrap64 (wrap64 ((l.length : Int) - 1) - (i : Int))) = (((j + 1) * (l.length - 1 - i) : Nat) : Int) := by
   have a1 : wrap64 ((j : Int) + 1) = ((j + 1 : Nat) : Int) := by unfold wrap64; omega
   have a2 : wrap64 (wrap64 ((l.length : Int) - 1) - (i : Int)) = ((l.length - 1 - i : Nat) : Int) := by
    rw [show wrap64 ((l.length : Int) - 1) = ((l.length - 1 : Nat) : Int) from by unfold wrap64; omega]
    unfold wrap64; omega
   rw [a1, a2, ← Int.natCast_mul]
   have : (j + 1) * (l.length - 1 - i) ≤ 6 * 15 := Nat.mul_le_mul Qa Qa
   unfold wrap64
   omega
  rw [e1]
  simp only [mo_.f, zw_.f, Option.bind_some]
  rw [mul_mx, fk1_ l i j Qa, show Go.bits .xor .i64 (ofG (psum l (j + 1) i)) (ofG (vG (rd l ↑i) * GF.ex ((j + 1) * (l.length - 1 - i)))) = ofG (psum l (j + 1) i + vG (rd l ↑i) * GF.ex ((j + 1) * (l.length - 1 - i))) from fm_ _ _]
  have e2 : psum l (j + 1) i + vG (rd l ↑i) * GF.ex ((j + 1) * (l.length - 1 - i)) = psum l (j + 1) (i + 1) := by
   simp [psum, gsum, rd]
  rw [e2, show (j : Int).toNat = j from by omega, dg1_ l i j Qa, show wrap64 ((j : Int) + 1) = ((j + 1 : Nat) : Int) from by unfold wrap64; omega]
  exact ih k (j + 1) Qa
open Go.Proofs.YtpkhgapifnjbeaaGreatDoor.S in
theorem syn_l0 (l : List Int) (hl : l.length ≤ 15) : ∀ (d i : Nat), i + d = l.length → ∃ k, xb_.l0 k l (mixS l i 0) l l.length (i : Int) = some (synI l) := by
 intro d
 induction d with
 | zero =>
  intro i hi
  refine ⟨1, ?_⟩
  simp only [xb_.l0]
  rw [if_neg Qa]
  obtain rfl : i = l.length := by omega
  rfl
 | succ d ih =>
  intro i hi
  obtain ⟨k, hk⟩ := ih (i + 1) Qa
  refine ⟨6 + 1 + k + 1, ?_⟩
  simp only [xb_.l0]
  rw [if_pos Qa, if_pos Qa, if_pos Qa]
  have := syn_l1 l hl i Qa 6 k 0 Qa
  rw [show ((0 : Nat) : Int) = 0 from rfl] at this
  rw [this, show wrap64 ((i : Int) + 1) = ((i + 1 : Nat) : Int) from by unfold wrap64; omega]
  exact hk
def nm_.f (l : List Int) : Option (List Int) := if l.length ≤ 15 then some (synI l) else none
theorem we1_ {C : Array Value} {xs : List Int} (h : C = (nums .i64 xs).toArray) (hl : xs.length = 6) : (Tryz.prog.info? 88).map (·.size) = some C.size := by
 rw [show C.size = 6 from by rw [h]; simp [nums, hl]]
 kernel_rfl
theorem ti1_ {C : Array Value} {xs : List Int} (h : C = (nums .i64 xs).toArray) (hl : xs.length = 6) : (6 : Nat) = C.size := by rw [h]; simp [nums, hl]
theorem si1_ {C : Array Value} {xs : List Int} (h : C = (nums .i64 xs).toArray) : C.all (·.oneCell') = true := by rw [h]; simp [nums, Value.oneCell']
theorem ri1_ (e : Nat) (W : World) (base : Nat) {C : Array Value} {xs : List Int} (h : C = (nums .i64 xs).toArray) (hl : xs.length = 6) (hb : base ≤ W.heap.size) :
  Kd.R (Kd.int .i64) e (W.alloc (.cells C e)) base (fun _ => True) (.slice (some ⟨W.heap.size, 0, none⟩) 6 6) xs := by
 subst h
 have := xh1_ (W := W.alloc (.cells (nums .i64 xs).toArray e)) (e := e) (g := W.heap.size) (base := base) (ok := fun _ => True) xs (heap_alloc_new _ _) hb trivial Qa
 rwa [hl] at this
theorem rj_ {l r : List Int} (h : nm_.f l = some r) : r.length = 6 := by
 unfold nm_.f at h
 split at h
 ·rw [← Option.some.inj h]; simp [synI]
 ·cases h
open Go.Proofs.YtpkhgapifnjbeaaGreatDoor.S in
theorem nm_.calls (A0 : Option Addr) (c0 : Nat) (l0 : List Int) (r : List Int) (w : World) (hr0 : Kd.C (Kd.int .i64) w A0 l0.length l0) (hc0 : l0.length ≤ c0) (h : nm_.f l0 = some r) :
  Calls Tryz.prog 45 #[.slice A0 l0.length c0] w fun e w' => ∃ C : Array Value, C = (nums .i64 r).toArray ∧ e = .returned (.agg C) ∧ Below w.heap.size w w' := by
 unfold nm_.f at h
 by_cases hl : l0.length ≤ 15
 rotate_left
 ·rw [if_neg hl] at h
  cases h
 rw [if_pos hl] at h
 obtain ⟨k, hk⟩ := syn_l0 l0 hl l0.length 0 Qa
 refine (xb_.calls k A0 c0 l0 r w hr0 hc0 ?_).mono fun e w' ⟨he, hb⟩ => ⟨_, rfl, he, hb⟩
 unfold xb_.f
 rw [if_pos Qc, ← h]
 rw [show (List.replicate 6 (0 : Int)) = mixS l0 0 0 from by simp [mixS, psum, gsum, qp_, List.range_succ, List.replicate]]
 exact hk
def ig_ (xs : List (List Int)) : Nat → Nat → Int := fun i k => (xs.getD i []).getD k 0
def vs_ (xs : List (List Int)) (C : Nat) : Bool := decide (1 ≤ xs.length ∧ xs.length ≤ 100 ∧ 1 ≤ C ∧ C ≤ 101) && xs.all fun x => decide (x.length = C)
def ui_.f (xs : List (List Int)) : Option (List Int × Bool) :=
 if vs_ xs (xs.headD []).length = true then some (solR xs.length ((xs.headD []).length - 1) (ig_ xs)) else none
theorem ui_.calls (base : Nat) (ok : Nat → Prop) (A0 : Option Addr) (c0 : Nat) (l0 : List (List Int)) (r1 : List Int) (r2 : Bool) (w : World) (HS : Kd.S (Kd.slice 87 (Kd.int .i64)) 124 w base ok (.slice A0 l0.length c0) l0) (hb : base ≤ w.heap.size) (h : ui_.f l0 = some (r1, r2)) :
  Calls Tryz.prog 96 #[.slice A0 l0.length c0] w fun e w' => ∃ v0_ : Value, e = .returned (.tuple #[v0_, .bool r2]) ∧ Kd.R (Kd.int .i64) 87 w' w.heap.size (fun _ => True) v0_ r1 ∧ Below base w w' := by
 unfold ui_.f at h
 generalize (l0.headD []).length = C at h
 by_cases hk : vs_ l0 C = true
 rotate_left
 ·rw [if_neg hk] at h
  cases h
 rw [if_pos hk] at h
 unfold vs_ at hk
 simp only [Bool.and_eq_true, decide_eq_true_eq, List.all_eq_true] at hk
 obtain ⟨⟨h1, h2, h3, h4⟩, h5⟩ := hk
 obtain ⟨g, cap, hh, cc, he, hM⟩ := bg1_ HS Qa (fun x hx => by simpa using h5 x hx) Qa
 injection he with e1 _ e3
 subst e1
 subst e3
 have h6 := Option.some.inj h
 obtain ⟨n, rfl⟩ : ∃ n, C = n + 1 := ⟨C - 1, Qa⟩
 have := eb1_ base g l0.length n c0 hh cc (ig_ l0) w hM h1 h2 Qa hb
 rw [show n + 1 - 1 = n from by omega] at h6
 unfold ub1_ at this
 rw [h6] at this
 exact this
end Go.Proofs.YtpkhgapifnjbeaaGreatDoor.G
end
section
namespace Go.Proofs.YtpkhgapifnjbeaaGreatDoor.C
open RowKit G Zw.PrintWords Zw.PrintLast Zw.PrintMore
attribute [local go_sem] pd_ rd_ yd_ zd_ dd_ ed_ qd_ sd_
def errW : Option Int → Value
 | none => .nilIface
 | some c => .iface 0 (.int .i64 c)
theorem ib_ : errW none = .nilIface := rfl
theorem jb_ (c : Int) : errW (some c) = .iface 0 (.int .i64 c) := rfl
theorem zh_ : (Tryz.prog.info? 3).map (fun i => (i.zero, i.size, i.bytes)) = some (some (.int .i64 0), 1, 8) := by kernel_rfl
end Go.Proofs.YtpkhgapifnjbeaaGreatDoor.C
end
section
namespace Go.Proofs.YtpkhgapifnjbeaaGreatDoor.C
open RowKit G Zw.PrintWords Zw.PrintLast Zw.PrintMore
attribute [local go_sem] pd_ rd_ yd_ zd_ dd_ ed_ qd_ sd_
def ng_.f (l0 : List Int) : Option (List Int) := (some (([] : List Int) : List Int)).bind fun y101 => (if y101.length + l0.length < 17592186044416 then (some (y101 ++ l0)) else (none))
set_option maxHeartbeats 8000000 in
set_option maxRecDepth 100000 in
theorem ng_.callsS (a0_ : Addr) (c0 : Nat) (l0 : List Int) (r : List Int) (w : World) (hr0 : Kd.C (Kd.int .i64) w (some a0_) l0.length l0) (hc0 : l0.length ≤ c0) (h : ng_.f l0 = some r) :
  Calls Tryz.prog 97 #[.slice (some a0_) l0.length c0] w fun e w' => ∃ v0_ : Value, e = .returned (v0_) ∧ Kd.R (Kd.int .i64) 3 w' w.heap.size (fun _ => True) v0_ r ∧ Below w.heap.size w w' := by
 have HR0 := ba_.mk hr0
 have HC0 := ba_.mk hc0
 clear hr0 hc0
 have HB := ba_.mk (Below.refl w.heap.size w)
 have H : ((some (([] : List Int) : List Int)).bind fun y101 => (if y101.length + l0.length < 17592186044416 then (some (y101 ++ l0)) else (none))) = some r := h
 clear h
 obtain ⟨y101, hy101⟩ : ∃ y_ : List Int, y_ = (([] : List Int)) := ⟨_, rfl⟩
 replace H : (if y101.length + l0.length < 17592186044416 then (some (y101 ++ l0)) else (none)) = some r := by first | (rw [hy101]; with_reducible exact H) | (have H2_ := (Option.bind_some _ _).symm.trans H; rw [hy101]; with_reducible exact H2_) | (have H2_ := (Option.bind_some _ _).symm.trans H; with_reducible exact H2_) | with_reducible exact H | (rw [hy101]; exact H) | exact H
 have Ny101 := ba_.mk hy101
 clear hy101
 obtain ⟨c2, H⟩ := Qq H
 have LMc2 := ba_.mk c2
 clear c2
 obtain ⟨y104, hy104⟩ : ∃ y_ : List Int, y_ = (y101 ++ l0) := ⟨_, rfl⟩
 replace H : (some y104) = some r := by first | (rw [hy104]; with_reducible exact H) | (have H2_ := (Option.bind_some _ _).symm.trans H; rw [hy104]; with_reducible exact H2_) | (have H2_ := (Option.bind_some _ _).symm.trans H; with_reducible exact H2_) | with_reducible exact H | (rw [hy104]; exact H) | exact H
 have Ny104 := ba_.mk hy104
 clear hy104
 obtain rfl := Option.some.inj H
 have qT : ∀ (w : World) (a : Option Addr) (n c n' c' : Nat), (binOp .eql 22 (.slice a n c) (.slice none n' c')).run Tryz.prog w = .ok (.bool a.isNone) w := fun w a n c n' c' => Lib.run_eql_slice_nil w _ _ a n c n' c' Tryz.underlying22
 go_enter Tryz.func97, Tryz.ntmps97
 go_wp2_with (first | ((with_reducible refine ld_ (N := 5) rfl ?_); refine Kd.aq_ (Kd.int .i64) _ 3 ?hg (N := 5) ?hd (xs := ([] : List Int)) (inner := []) (ok := fun _ => True) (okp := fun _ => True) ?hr ?hp (fun _ hk => hk) trivial (Below.refl _ _) (Nat.le_refl _) Qj ?_; (case hd => rfl); (case hg => rfl); (case hr => exact Qt); (case hp => exact (Reps.none _ _)); intro v102 w3 ho4 hb hg_ hnew_; clear hg_ hnew_; (first | rw [← Ny101.out] at ho4 | (simp only [Int.reduceToNat] at ho4; rw [← Ny101.out] at ho4)); have n0_ := ba_.mk (Kd.xd_ ho4 (pb_ Qh)); have n1_ := ba_.mk (hb_ Qh hb); clear HB; have HO103 := n0_; have HB := n1_; clear n0_ n1_; clear hb ho4) | ((with_reducible refine md_ (b := .append) (xs := #[.tmp 5, .tmp 6]) rfl ?_); at_builtin; refine Kd.eh_ (Kd.int .i64) (w0 := w) w.heap.size rfl (.tmp 5) (.tmp 6) 22 3 (.int .i64 0) 8 rfl Tryz.underlying22 zh_ rfl Qc Qa v102 y101 l0 _ _ _ (fun _ => True) (fun _ => False) rfl rfl ?aO ?aR (fun _ _ h => h) (fun _ h => h.elim) ?aF ?aB ?aS ?aL ?_; (case aR => exact Xc); (case aB => exact Xo); (case aF => exact Xn); (case aO => exact (Qk HO103.out)); (case aS => exact Xp); (case aL => have := LMc2.out; omega); intro v105 w5 ho hb hg hat; rw [← Ny104.out] at ho; have n0_ := ba_.mk (hb); have n1_ := ba_.mk (ho); clear HB; clear HO103; have HB := n0_; have HO106 := n1_; clear n0_ n1_; clear ho hb hg hat))
 go_ret
 exact ⟨_, Qu, by (with_reducible repeat (first | apply Kd.bb_ | apply Kd.cb_ | apply Kd.sb_)); exact HO106.out, Qh⟩
end Go.Proofs.YtpkhgapifnjbeaaGreatDoor.C
end
section
namespace Go.Proofs.YtpkhgapifnjbeaaGreatDoor.C
open RowKit G Zw.PrintWords Zw.PrintLast Zw.PrintMore
attribute [local go_sem] pd_ rd_ yd_ zd_ dd_ ed_ qd_ sd_
end Go.Proofs.YtpkhgapifnjbeaaGreatDoor.C
end
section
namespace Go.Proofs.YtpkhgapifnjbeaaGreatDoor.G
open RowKit Zw.PrintWords Zw.PrintLast Zw.PrintMore Rs
theorem dc1_ (c0 : Nat) (w : World) : Calls Tryz.prog 97 #[.slice none 0 c0] w fun e w' => e = .returned (.slice none 0 0) ∧ w = w' := by
 have qT : ∀ (w : World) (a : Option Addr) (n c n' c' : Nat), (binOp .eql 22 (.slice a n c) (.slice none n' c')).run Tryz.prog w = .ok (.bool a.isNone) w := fun w a n c n' c' => Lib.run_eql_slice_nil w _ _ a n c n' c' Tryz.underlying22
 go_enter Tryz.func97, Tryz.ntmps97
 go_wp2
 go_ret
 exact ⟨rfl, rfl⟩
def ti_.f (l : List Int) : Option (List Int) := if l.length < 17592186044416 then some l else none
open Go.Proofs.YtpkhgapifnjbeaaGreatDoor.C in
theorem ti_.calls (A0 : Option Addr) (c0 : Nat) (l0 : List Int) (r : List Int) (w : World) (hr0 : Kd.C (Kd.int .i64) w A0 l0.length l0) (hc0 : l0.length ≤ c0) (h : ti_.f l0 = some r) :
  Calls Tryz.prog 97 #[.slice A0 l0.length c0] w fun e w' => ∃ v0_ : Value, e = .returned (v0_) ∧ Kd.R (Kd.int .i64) 3 w' w.heap.size (fun _ => True) v0_ r ∧ Below w.heap.size w w' := by
 unfold ti_.f at h
 by_cases hl : l0.length < 17592186044416
 rotate_left
 ·rw [if_neg hl] at h
  cases h
 rw [if_pos hl] at h
 obtain rfl := Option.some.inj h
 cases A0 with
 | some a =>
  refine ng_.callsS a c0 l0 l0 w hr0 hc0 ?_
  unfold ng_.f
  simp [hl]
 | none =>
  have h0 : l0 = [] := by
   cases l0 with
   | nil => rfl
   | cons x xs =>
    obtain ⟨ad, he, _⟩ := Kd.ee_ hr0 0 Qa Qj
    cases he
  subst h0
  exact (dc1_ c0 w).mono fun e w' ⟨he, hw⟩ => ⟨_, he, Kd.vf_ _ _ _ _ _, hw ▸ Below.refl _ _⟩
end Go.Proofs.YtpkhgapifnjbeaaGreatDoor.G
end
section
namespace Go.Proofs.YtpkhgapifnjbeaaGreatDoor.G
open RowKit Zw.PrintWords
def ah_ (least x : Int) : Bool := decide (x < least) || decide (32 ≤ x)
theorem wordC (x least : Int) (B : Nat) (W : World) (hc : W.cell? ⟨B, 0, none⟩ = some (.int .i64 least)) :
  Calls Tryz.prog 78 #[.int .i64 x, .pointer (some ⟨B, 0, none⟩)] W fun e w' => e = .returned (.bool (ah_ least x)) ∧ W = w' := by
 by_cases h1 : x < least <;> by_cases h2 : 32 ≤ x
 all_goals
  go_enter Tryz.func78, Tryz.ntmps78
  go_wp2
  go_ret
  exact ⟨by simp [ah_, h1, h2], rfl⟩
theorem wordY (x least : Int) (B : Nat) (W : World) (hc : W.cell? ⟨B, 0, none⟩ = some (.int .i64 least)) (b : Bool) (hb : ah_ least x = b) :
  Calls Tryz.prog 78 #[.int .i64 x, .pointer (some ⟨B, 0, none⟩)] W fun e w' => e = .returned (.bool b) ∧ W = w' := hb ▸ wordC x least B W hc
theorem kt_ (p : Int → Bool) (l : List Int) (k : Int) (h0 : 0 ≤ k) (h : k < l.length) : (l.take (k + 1).toNat).any p = ((l.take k.toNat).any p || p (rd l k)) := by
 have e : (k + 1).toNat = k.toNat + 1 := by omega
 have hk : k.toNat < l.length := by omega
 rw [e, List.take_succ_eq_append_getElem hk, List.any_append]
 simp [rd, hk]
theorem mp_ (p : Int → Bool) (l : List Int) (k : Int) (h0 : 0 ≤ k) (h : k < l.length) (hp : p (rd l k) = true) : l.any p = true := by
 have hk : k.toNat < l.length := by omega
 refine List.any_eq_true.2 ⟨l[k.toNat], List.getElem_mem _, ?_⟩
 simpa [rd, hk] using hp
theorem vb1_ (p : Int → Bool) (l : List Int) (k : Int) (hk : ¬ k < l.length) (hp : (l.take k.toNat).any p = false) : l.any p = false := by
 rwa [List.take_of_length_le Qa] at hp
set_option maxHeartbeats 1000000 in
theorem idxF (least : Int) (B : Nat) (w : World) (hc : w.cell? ⟨B, 0, none⟩ = some (.int .i64 least)) (A : Option Addr) (c : Nat) (l : List Int) (hr : Kd.C (Kd.int .i64) w A l.length l) (hl : l.length ≤ 9223372036854775807) :
  Calls Tryz.prog 111 #[.slice A l.length c, .func (.func 78) #[] #[.pointer (some ⟨B, 0, none⟩)]] w fun e w' => (∃ r : Int, e = .returned (.int .i64 r) ∧ decide (0 ≤ r) = l.any (ah_ least)) ∧ w = w' := by
 have HR := Lib.hid hr
 clear hr
 go_enter Tryz.func111, Tryz.ntmps111
 go_wp2
 go_loop [8] (fun v => ∃ k : Int, 0 ≤ k ∧ k ≤ l.length ∧ v = .int .i64 k ∧ Hid ((l.take k.toNat).any (ah_ least) = false)) (fun v => l.length - (intOf v).toNat)
 case atStart => exact ⟨0, Qa, Qa, rfl, Lib.hid Qj⟩
 case round =>
  obtain ⟨k, hk0, hk, rfl, HN⟩ := hrel
  by_cases hlt : k < l.length
  rotate_left
  ·have HE := Lib.hid (vb1_ (ah_ least) l k hlt HN.out)
   go_wp2
   go_ret
   exact ⟨⟨-1, rfl, by rw [HE.out]; rfl⟩, rfl⟩
  have hs := kt_ (ah_ least) l k hk0 hlt
  have hh := mp_ (ah_ least) l k hk0 hlt
  have HS := Lib.hid hs
  have HH := Lib.hid hh
  clear hs hh
  obtain ⟨ad, e1, hx⟩ := Kd.ee_ HR.out k hk0 hlt
  subst e1
  cases hb : ah_ least (rd l k)
  ·have HB := Lib.hid hb
   clear hb
   go_wp2_with (first | (go_at_call 78; refine (wordY _ _ _ _ hc _ HB.out).mono ?_; rintro e w' ⟨rfl, rfl⟩))
   go_round
   case rel => exact ⟨k + 1, Qa, Qa, rfl, Lib.hid (by rw [HS.out, HN.out, HB.out]; rfl)⟩
   case measure => simp [intOf]; omega
  have HB := Lib.hid hb
  clear hb
  go_wp2_with (first | (go_at_call 78; refine (wordY _ _ _ _ hc _ HB.out).mono ?_; rintro e w' ⟨rfl, rfl⟩))
  go_ret
  exact ⟨⟨k, rfl, by rw [HH.out HB.out]; simp [hk0]⟩, rfl⟩
set_option maxHeartbeats 1000000 in
theorem conF (least : Int) (B : Nat) (w : World) (hc : w.cell? ⟨B, 0, none⟩ = some (.int .i64 least)) (A : Option Addr) (c : Nat) (l : List Int) (hr : Kd.C (Kd.int .i64) w A l.length l) (hl : l.length ≤ 9223372036854775807) :
  Calls Tryz.prog 77 #[.slice A l.length c, .func (.func 78) #[] #[.pointer (some ⟨B, 0, none⟩)]] w fun e w' => e = .returned (.bool (l.any (ah_ least))) ∧ w = w' := by
 have HR := Lib.hid hr
 clear hr
 go_enter Tryz.func77, Tryz.ntmps77
 go_wp2_with (first | (go_at_call 111; refine (idxF _ _ _ hc A c l HR.out hl).mono ?_; rintro e w' ⟨⟨r, rfl, hr⟩, rfl⟩; have H9 := Lib.hid hr; clear hr))
 go_ret
 exact ⟨congrArg (fun b => Ending.returned (.bool b)) (by rw [← H9.out]), rfl⟩
def di_.f (l0 : List Int) (a1 : Int) : Option Bool := some (decide (7 ≤ l0.length ∧ l0.length ≤ 15) && !(l0.any (ah_ a1)))
set_option maxHeartbeats 1000000 in
theorem di_.calls (A0 : Option Addr) (c0 : Nat) (l0 : List Int) (a1 : Int) (r : Bool) (w : World) (hr0 : Kd.C (Kd.int .i64) w A0 l0.length l0) (hc0 : l0.length ≤ c0) (h : di_.f l0 a1 = some r) :
  Calls Tryz.prog 44 #[.slice A0 l0.length c0, .int .i64 a1] w fun e w' => e = .returned (.bool r) ∧ Below w.heap.size w w' := by
 obtain rfl := Option.some.inj h
 clear h
 have HR := Lib.hid hr0
 clear hr0 hc0
 by_cases h1 : 7 ≤ l0.length
 rotate_left
 ·have e1 : decide (7 ≤ l0.length ∧ l0.length ≤ 15) = false := decide_eq_false Qa
  have E1 := Lib.hid e1
  clear e1
  have b1 : decide (7 ≤ (l0.length : Int)) = false := by simp; omega
  go_enter Tryz.func44, Tryz.ntmps44
  go_wp2
  go_ret
  exact ⟨congrArg (fun b => Ending.returned (.bool b)) (by rw [E1.out]; rfl), (Below.refl _ _).alloc (Nat.le_refl _) _⟩
 by_cases h2 : l0.length ≤ 15
 ·have e1 : decide (7 ≤ l0.length ∧ l0.length ≤ 15) = true := decide_eq_true ⟨h1, h2⟩
  have E1 := Lib.hid e1
  clear e1
  have b1 : decide (7 ≤ (l0.length : Int)) = true := by simp; omega
  have b2 : decide ((l0.length : Int) ≤ 15) = true := by simp; omega
  go_enter Tryz.func44, Tryz.ntmps44
  go_wp2_with (first | (go_at_call 77; refine (conF a1 _ _ Qj A0 c0 l0 ?_ Qa).mono ?_; exact Kd.re_ HR.out ((Below.refl _ _).alloc (Nat.le_refl _) _); rintro e w' ⟨rfl, rfl⟩))
  go_ret
  exact ⟨congrArg (fun b => Ending.returned (.bool b)) (by rw [E1.out]; rfl), (Below.refl _ _).alloc (Nat.le_refl _) _⟩
 have e1 : decide (7 ≤ l0.length ∧ l0.length ≤ 15) = false := decide_eq_false Qa
 have E1 := Lib.hid e1
 clear e1
 have b1 : decide (7 ≤ (l0.length : Int)) = true := by simp; omega
 have b2 : decide ((l0.length : Int) ≤ 15) = false := by simp; omega
 go_enter Tryz.func44, Tryz.ntmps44
 go_wp2
 go_ret
 exact ⟨congrArg (fun b => Ending.returned (.bool b)) (by rw [E1.out]; rfl), (Below.refl _ _).alloc (Nat.le_refl _) _⟩
end Go.Proofs.YtpkhgapifnjbeaaGreatDoor.G
end
section
namespace Go.Proofs.YtpkhgapifnjbeaaGreatDoor.Q
open RowKit G Zw.PrintWords Zw.PrintLast Zw.PrintMore
attribute [local go_sem] pd_ rd_ yd_ zd_ dd_ ed_ qd_ sd_
end Go.Proofs.YtpkhgapifnjbeaaGreatDoor.Q
end
section
namespace Go.Proofs.YtpkhgapifnjbeaaGreatDoor.Q
open RowKit G Zw.PrintWords Zw.PrintLast Zw.PrintMore
attribute [local go_sem] pd_ rd_ yd_ zd_ dd_ ed_ qd_ sd_
end Go.Proofs.YtpkhgapifnjbeaaGreatDoor.Q
end
section
namespace Go.Proofs.YtpkhgapifnjbeaaGreatDoor.Q
open RowKit G Zw.PrintWords Zw.PrintLast Zw.PrintMore
attribute [local go_sem] pd_ rd_ yd_ zd_ dd_ ed_ qd_ sd_
end Go.Proofs.YtpkhgapifnjbeaaGreatDoor.Q
end
section
namespace Go.Proofs.YtpkhgapifnjbeaaGreatDoor.G
open RowKit Zw.PrintWords Zw.PrintLast Zw.PrintMore Rs Q
def isWord (l : List Int) (low : Int) : Bool := decide (7 ≤ l.length ∧ l.length ≤ 15) && !(l.any (ah_ low))
theorem df_ (l : List Int) (i : Nat) : rd l (i : Int) = l.getD i 0 := by simp [rd]
def tl_ (l : List Int) : Bool := l.all isEl
theorem kn_ {l : List Int} (h : tl_ l = true) (i : Nat) (hi : i < l.length) : isEl (l.getD i 0) = true := by
 have := List.all_eq_true.1 h (l.getD i 0) (by rw [List.getD_eq_getElem?_getD, List.getElem?_eq_getElem hi]; exact List.getElem_mem _)
 exact this
def lf_ (l : List Int) : Bool := isWord l 0 && (List.range 6).all fun j => decide (psum l (j + 1) l.length = 0)
theorem uo_ {l : List Int} (h : isWord l 0 = true) : tl_ l = true ∧ 7 ≤ l.length ∧ l.length ≤ 15 := by
 unfold isWord at h
 simp only [Bool.and_eq_true, decide_eq_true_eq, Bool.not_eq_true', List.any_eq_false] at h
 refine ⟨List.all_eq_true.2 fun x hx => ?_, h.1.1, h.1.2⟩
 have := h.2 x hx
 simp [ah_] at this
 simp [isEl]
 omega
end Go.Proofs.YtpkhgapifnjbeaaGreatDoor.G
end
section
namespace Go.Proofs.YtpkhgapifnjbeaaGreatDoor.G
open RowKit Zw.PrintWords Zw.PrintLast Zw.PrintMore Rs
structure Tl (W : World) (base g R C : Nat) (h cc : Nat → Nat) (M : Nat → Nat → Int) (T go co L : Nat) (x : List Int) : Prop where
 mat : Mat W base g R C h cc M
 row : Kd.R (Kd.int .i64) T W base (fun k => k = go) (.slice (some ⟨go, 0, none⟩) L co) x
 ng : g ≠ go
 nh : ∀ i, i < R → h i ≠ go
 el : ∀ i k, i < R → k < C → isEl (M i k) = true
section
variable {W W1 : World} {base g R C T go co L : Nat} {h cc : Nat → Nat} {M : Nat → Nat → Int} {x : List Int}
theorem Tl.drewN (H : Tl W base g R C h cc M T go co L x) (n : Nat) : Tl (W.drewN n) base g R C h cc M T go co L x := ⟨H.mat.drewN n, Kd.cb_ H.row n, H.ng, H.nh, H.el⟩
theorem Tl.drew (H : Tl W base g R C h cc M T go co L x) : Tl W.drew base g R C h cc M T go co L x := ⟨H.mat.drew, Kd.sb_ H.row, H.ng, H.nh, H.el⟩
theorem Tl.below (H : Tl W base g R C h cc M T go co L x) (hb : Below W.heap.size W W1) : Tl W1 base g R C h cc M T go co L x := ⟨H.mat.below hb, Kd.be_ H.row hb, H.ng, H.nh, H.el⟩
theorem Tl.congr {M' : Nat → Nat → Int} (H : Tl W base g R C h cc M T go co L x) (e : ∀ i k, i < R → k < C → M i k = M' i k) : Tl W base g R C h cc M' T go co L x :=
 ⟨H.mat.congr e, H.row, H.ng, H.nh, fun i k hi hk => by rw [← e i k hi hk]; exact H.el i k hi hk⟩
theorem Tl.set (H : Tl W base g R C h cc M T go co L x) (i k : Nat) (hi : i < R) (hk : k < C) (y : Int) (hy : isEl y = true) : Tl (W.setCell ⟨h i, k, none⟩ (.int .i64 y)) base g R C h cc (updM M i k y) T go co L x :=
 ⟨H.mat.set i k hi hk y, Kd.zf_ H.row (fun k hk e => H.nh i hi (e.symm.trans hk)) _, H.ng, H.nh, fun i' k' hi' hk' => by unfold updM; split; exact hy; exact H.el i' k' hi' hk'⟩
theorem Tl.swap (H : Tl W base g R C h cc M T go co L x) (a b : Nat) (ha : a < R) (hb : b < R) :
  Tl ((W.setCell ⟨g, a, none⟩ (.slice (some ⟨h b, 0, none⟩) C (cc b))).setCell ⟨g, b, none⟩ (.slice (some ⟨h a, 0, none⟩) C (cc a))) base g R C (xg_ h a b) (xg_ cc a b) (xg_ M a b) T go co L x :=
 ⟨H.mat.swap a b ha hb, Kd.zf_ (Kd.zf_ H.row (fun k hk e => H.ng (e.symm.trans hk)) _) (fun k hk e => H.ng (e.symm.trans hk)) _, H.ng, fun i hi => wp_ (p := fun y => y ≠ go) H.nh ha hb hi, fun i k hi hk => wp_ (p := fun f : Nat → Int => isEl (f k) = true) (fun i hi => H.el i k hi hk) ha hb hi⟩
theorem Tl.put (H : Tl W base g R C h cc M T go co L x) (p y : Int) : Tl (W.setCell ⟨go, p.toNat, none⟩ (.int .i64 y)) base g R C h cc M T go co L (x.set p.toNat y) := by
 have hne : ∀ (q : Addr), q.block ≠ go → (W.setCell ⟨go, p.toNat, none⟩ (.int .i64 y)).cell? q = W.cell? q := fun q hq => World.cell?_setCell_other _ _ _ _ (fun e => hq (by rw [← e]))
 exact ⟨⟨fun i hi => (hne _ H.ng).trans (H.mat.out i hi), fun i hi => by rw [World.frozen?_setCell]; exact H.mat.fro i hi, fun i k hi hk => (hne _ (H.nh i hi)).trans (H.mat.cel i k hi hk), fun i k hi hk => by rw [World.frozen?_setCell]; exact H.mat.frc i k hi hk, H.mat.ne, H.mat.inj, H.mat.lo, H.mat.lg⟩, Kd.wo_ H.row p y, H.ng, H.nh, H.el⟩
end
theorem gv_ {a b : Int} (ha : isEl a = true) (hb : isEl b = true) : isEl (xorI a b) = true := by
 rw [wx_ ha hb]; exact kh_ _
theorem gq_ {l t : List Int} (h : ti_.f l = some t) : t = l ∧ l.length < 17592186044416 := by
 unfold ti_.f at h
 by_cases hl : l.length < 17592186044416
 ·exact Qaj
 ·exact Yh
end Go.Proofs.YtpkhgapifnjbeaaGreatDoor.G
end
section
namespace Go.Proofs.YtpkhgapifnjbeaaGreatDoor.F
open RowKit G Zw.PrintWords Zw.PrintLast Zw.PrintMore
attribute [local go_sem] pd_ rd_ yd_ zd_ dd_ ed_ qd_ sd_
def errW : Option Int → Value
 | none => .nilIface
 | some c => .iface 0 (.int .i64 c)
theorem ib_ : errW none = .nilIface := rfl
theorem jb_ (c : Int) : errW (some c) = .iface 0 (.int .i64 c) := rfl
theorem zo_ : (Tryz.prog.info? 87).map (fun i => (i.zero, i.size, i.bytes)) = some (some (.int .i64 0), 1, 8) := by kernel_rfl
theorem uj1_ : (Tryz.prog.info? 124).map (fun i => (i.zero, i.size, i.bytes)) = some (some (.slice none 0 0), 1, 24) := by kernel_rfl
end Go.Proofs.YtpkhgapifnjbeaaGreatDoor.F
end
section
namespace Go.Proofs.YtpkhgapifnjbeaaGreatDoor.F
open RowKit G Zw.PrintWords Zw.PrintLast Zw.PrintMore
attribute [local go_sem] pd_ rd_ yd_ zd_ dd_ ed_ qd_ sd_
mutual
def fc_.l0 : Nat → List Int → List Int → List (List Int) → List Int → Int → Option (List Int)
 | 0, _, _, _, _, _ => none
 | k + 1, x0, x1, x5, x17, x18 => if x18 < 6 then (if 0 ≤ x18 then (if x18 < (x17.length : Int) then (fc_.l1 k x0 x1 x5 x18 (rd x17 x18) ([] : List Int) x17 x18 x1 (x1.length : Int) 0) else (none)) else (none)) else ((ui_.f x5).bind fun bt117 => (if bt117.2 = true then ((ti_.f x0).bind fun t121 => (fc_.l2 k x0 bt117.1 t121 x1 (x1.length : Int) 0)) else (some ([] : List Int))))
def fc_.l1 : Nat → List Int → List Int → List (List Int) → Int → Int → List Int → List Int → Int → List Int → Int → Int → Option (List Int)
 | 0, _, _, _, _, _, _, _, _, _, _, _ => none
 | k + 1, x0, x1, x5, x6, x7, x8, x17, x18, x22, x23, x24 => if x24 < x23 then (if 0 ≤ x24 then (if x24 < (x22.length : Int) then ((g_at.f x0 (rd x22 x24) (wrap64 (x6 + 1))).bind fun t107 => (if x8.length < 17592186044416 then (fc_.l1 k x0 x1 x5 x6 x7 (x8 ++ [t107]) x17 x18 x22 x23 (wrap64 (x24 + 1))) else (none))) else (none)) else (none)) else (if x8.length < 17592186044416 then (if x5.length < 5864062014805 then (fc_.l0 k x0 x1 (x5 ++ [(x8 ++ [x7])]) x17 (wrap64 (x18 + 1))) else (none)) else (none))
def fc_.l2 : Nat → List Int → List Int → List Int → List Int → Int → Int → Option (List Int)
 | 0, _, _, _, _, _, _ => none
 | k + 1, x0, x11, x13, x54, x55, x56 => if x56 < x55 then (if 0 ≤ x56 then (if x56 < (x54.length : Int) then (if 0 ≤ (rd x54 x56) then (if (rd x54 x56) < (x0.length : Int) then (if x56 < (x11.length : Int) then (if (rd x54 x56) < (x13.length : Int) then (fc_.l2 k x0 x11 (x13.set ((rd x54 x56) : Int).toNat (Go.bits .xor .i64 (mx (rd x0 (rd x54 x56)) 0) (rd x11 x56))) x54 x55 (wrap64 (x56 + 1))) else (none)) else (none)) else (none)) else (none)) else (none)) else (none)) else (some x13)
end
def fc_.f (k : Nat) (l0 : List Int) (l1 : List Int) : Option (List Int) := (nm_.f l0).bind fun t102 => (fc_.l0 k l0 l1 ([] : List (List Int)) t102 0)
theorem fc_.nd_ : ∀ k, (∀ y0 y1 y2 y3 y4, LeO (fc_.l0 k y0 y1 y2 y3 y4) (fc_.l0 (k + 1) y0 y1 y2 y3 y4)) ∧ (∀ y0 y1 y2 y3 y4 y5 y6 y7 y8 y9 y10, LeO (fc_.l1 k y0 y1 y2 y3 y4 y5 y6 y7 y8 y9 y10) (fc_.l1 (k + 1) y0 y1 y2 y3 y4 y5 y6 y7 y8 y9 y10)) ∧ (∀ y0 y1 y2 y3 y4 y5, LeO (fc_.l2 k y0 y1 y2 y3 y4 y5) (fc_.l2 (k + 1) y0 y1 y2 y3 y4 y5))
 | 0 => ⟨fun _ _ _ _ _ r h => by simp [fc_.l0] at h, fun _ _ _ _ _ _ _ _ _ _ _ r h => by simp [fc_.l1] at h, fun _ _ _ _ _ _ r h => by simp [fc_.l2] at h⟩
 | k + 1 => by
  obtain ⟨ih0, ih1, ih2⟩ := fc_.nd_ k
  refine ⟨?_, ?_, ?_⟩
  ·intro y0 y1 y2 y3 y4
   unfold fc_.l0
   exact Qr
  ·intro y0 y1 y2 y3 y4 y5 y6 y7 y8 y9 y10
   unfold fc_.l1
   exact Qr
  intro y0 y1 y2 y3 y4 y5
  unfold fc_.l2
  exact Qr
theorem fc_.mono : ∀ a0 a1 k, LeO (fc_.f k a0 a1) (fc_.f (k + 1) a0 a1) := by
 intro a0 a1 k
 obtain ⟨ih0, ih1, ih2⟩ := fc_.nd_ k
 unfold fc_.f
 exact Qr
def fc_.T20 : Bool × List (List Nat × List Nat) := (true, [([], []), ([], []), ([], []), ([], []), ([2, 3], [2, 3]), ([4], [4]), ([5], [5]), ([], []), ([], []), ([7, 8], [7, 8]), ([9], [9]), ([6, 10], [6, 10]), ([0, 1, 0, 1, 2, 3, 4, 5, 6, 7, 8, 9, 10, 11], [0, 1]), ([12, 11, 0, 1, 2, 3, 4, 5, 6, 7, 8, 9, 10, 11], [11, 12])])
def fc_.B20 : List Nat := [0, 0, 0, 0, 12, 28, 60, 0, 0, 384, 896, 2044, 4095, 8191]
theorem fc_.tab20 : rtab .any (opsOf Tryz.f69 20) = fc_.T20 := by kernel_rfl
theorem fc_.bits20 : ni_ fc_.T20.2 fc_.B20 = true := by kernel_rfl
set_option maxHeartbeats 8000000 in
set_option maxRecDepth 100000 in
theorem fc_.calls (k : Nat) (A0 : Option Addr) (c0 : Nat) (l0 : List Int) (A1 : Option Addr) (c1 : Nat) (l1 : List Int) (r : List Int) (w : World) (hr0 : Kd.C (Kd.int .i64) w A0 l0.length l0) (hc0 : l0.length ≤ c0) (hr1 : Kd.C (Kd.int .i64) w A1 l1.length l1) (hc1 : l1.length ≤ c1) (h : fc_.f k l0 l1 = some r) :
  Calls Tryz.prog 69 #[.slice A0 l0.length c0, .slice A1 l1.length c1] w fun e w' => ∃ v0_ : Value, e = .returned (v0_) ∧ Kd.R (Kd.int .i64) 3 w' w.heap.size (fun _ => True) v0_ r ∧ Below w.heap.size w w' ∧ (l0 ≠ [] → r = [] → v0_ = .slice none 0 0) := by
 have HR0 := ba_.mk hr0
 have HC0 := ba_.mk hc0
 clear hr0 hc0
 have HR1 := ba_.mk hr1
 have HC1 := ba_.mk hc1
 clear hr1 hc1
 have HB := ba_.mk (Below.refl w.heap.size w)
 have H : ((nm_.f l0).bind fun t102 => (fc_.l0 k l0 l1 ([] : List (List Int)) t102 0)) = some r := h
 clear h
 obtain ⟨t102, A3, H⟩ := Qo H
 try dsimp only at H
 have H' := ba_.mk H
 clear H
 go_enter Tryz.func69, Tryz.ntmps69
 go_wp2_with (first | ((with_reducible refine va_ (f := 45) rfl ?_); refine lc_ (some 17) rfl rfl Tryz.func45 Qb rfl #[.slice A0 l0.length c0] rfl Qm ?_; (with_reducible refine (nm_.calls _ _ l0 t102 _ ?side1 ?side2 A3.out).mono ?_); (case side1 => exact X1); (case side2 => exact HC0.out); rintro e w4 ⟨v103, hv9, rfl, hb⟩; refine ⟨_, rfl, ?_⟩; have HV9 := ba_.mk hv9; clear hv9; have n1_ := ba_.mk (hb_ Qh hb); clear HB; have HB := n1_; clear n1_; (try clear hb); (try clear hb2); (try clear hk); (try clear hi)))
 go_loopg [5, 18] k (fun kq v5 v18 w' => ∃ (x5_1 : List (List Int)) (x18_1 : Int), v18 = .int .i64 x18_1 ∧ ba_ (fc_.l0 kq l0 l1 x5_1 t102 x18_1 = some r) ∧ ba_ (kq ≤ k) ∧ ba_ (Kd.S (Kd.slice 87 (Kd.int .i64)) 124 w' w.heap.size (fun _ => True) v5 x5_1) ∧ ba_ (Below w.heap.size w w'))
 case atStart => exact ⟨(([] : List (List Int))), (0), Ql, H', ⟨Nat.le_refl _⟩, ⟨Yo⟩, ⟨Qh⟩⟩
 case round =>
  clear H'
  try clear c1
  try clear p2
  try clear c4
  obtain ⟨x5_1, x18_1, rfl, HA, HK1, HO_5, HB⟩ := hrel
  cases gk with
  | zero => exact absurd HA.out (by simp [fc_.l0])
  | succ k1 =>
   have H := HA.out
   clear HA
   simp only [fc_.l0] at H
   by_cases c5 : x18_1 < 6
   ·rw [if_pos c5] at H
    have c5b0 := decide_eq_true c5
    clear c5
    obtain ⟨c6, H⟩ := Qq H
    have c6b0 := decide_eq_true c6
    clear c6
    obtain ⟨c7, H⟩ := Qq H
    have c7b0 := decide_eq_true c7
    clear c7
    have H' := ba_.mk H
    clear H
    have p105 : 0 ≤ (x18_1 : Int) := of_decide_eq_true Qi
    have q105 : x18_1 < (t102.length : Int) := of_decide_eq_true Qi
    have hix := bd1_ v103 (t102) x18_1 p105 (of_decide_eq_true c5b0) (rj_ A3.out) HV9.out
    replace p105 := eq_true p105
    replace q105 := eq_true q105
    go_wp2
    go_loopg [8, 24] k1 (fun kq v8 v24 w' => ∃ (x8_2 : List Int) (x24_2 : Int), v24 = .int .i64 x24_2 ∧ ba_ (fc_.l1 kq l0 l1 x5_1 x18_1 (rd t102 x18_1) x8_2 t102 x18_1 l1 (l1.length : Int) x24_2 = some r) ∧ ba_ (kq ≤ k1) ∧ ba_ (Kd.S (Kd.slice 87 (Kd.int .i64)) 124 w' w.heap.size (fun k_ => some k_ ≠ (v8 : Value).ownBlock) u5 x5_1) ∧ ba_ (Kd.R (Kd.int .i64) 87 w' w.heap.size (fun _ => True) v8 x8_2) ∧ ba_ (Below w.heap.size w w'))
    case atStart => exact ⟨(([] : List Int)), (0), Ql, H', ⟨Nat.le_refl _⟩, ⟨by (with_reducible repeat (first | apply Kd.ye_ | apply Kd.ze_ | apply Kd.ag_)); exact Kd.uk_ HO_5.out (fun _ hk => Q6)⟩, ⟨Q9⟩, ⟨Qh⟩⟩
    case round =>
     clear H'
     try clear c1
     try clear p1
     try clear q1
     try clear hx1
     try clear p2
     try clear c4
     try clear c5
     try clear c5b0
     try clear c6
     try clear c6b0
     try clear c7
     try clear c7b0
     try clear hx105_0
     try clear p105
     try clear p2
     try clear q105
     obtain ⟨x8_2, x24_2, rfl, HA, HK2, HO_5, HO_8, HB⟩ := hrel
     cases gk with
     | zero => exact absurd HA.out (by simp [fc_.l1])
     | succ k2 =>
      have H := HA.out
      clear HA
      simp only [fc_.l1] at H
      by_cases c9 : x24_2 < (l1.length : Int)
      rotate_left
      ·rw [if_neg c9] at H
       have c9b0 := decide_eq_false c9
       clear c9
       obtain ⟨c15, H⟩ := Qq H
       have LMc15 := ba_.mk c15
       clear c15
       obtain ⟨y111, hy111⟩ : ∃ y_ : List Int, y_ = (x8_2 ++ [(rd t102 x18_1)]) := ⟨_, rfl⟩
       replace H : (if x5_1.length < 5864062014805 then (fc_.l0 k2 l0 l1 (x5_1 ++ [y111]) t102 (wrap64 (x18_1 + 1))) else (none)) = some r := by first | (rw [hy111]; with_reducible exact H) | (have H2_ := (Option.bind_some _ _).symm.trans H; rw [hy111]; with_reducible exact H2_) | (have H2_ := (Option.bind_some _ _).symm.trans H; with_reducible exact H2_) | with_reducible exact H | (rw [hy111]; exact H) | exact H
       have Ny111 := ba_.mk hy111
       clear hy111
       obtain ⟨c16, H⟩ := Qq H
       have LMc16 := ba_.mk c16
       clear c16
       obtain ⟨y114, hy114⟩ : ∃ y_ : List (List Int), y_ = (x5_1 ++ [y111]) := ⟨_, rfl⟩
       replace H : (fc_.l0 k2 l0 l1 y114 t102 (wrap64 (x18_1 + 1))) = some r := by first | (rw [hy114]; with_reducible exact H) | (have H2_ := (Option.bind_some _ _).symm.trans H; rw [hy114]; with_reducible exact H2_) | (have H2_ := (Option.bind_some _ _).symm.trans H; with_reducible exact H2_) | with_reducible exact H | (rw [hy114]; exact H) | exact H
       have Ny114 := ba_.mk hy114
       clear hy114
       have H' := ba_.mk H
       clear H
       go_wp2_with (first | ((with_reducible refine md_ (b := .append) (xs := #[.tmp 38, .tmp 40]) rfl ?_); at_builtin; refine Kd.yf_ (Kd.int .i64) (w0 := w) w.heap.size rfl (.tmp 38) (.tmp 40) 124 87 (.int .i64 0) 8 rfl Tryz.underlying124 zo_ rfl Qc Qa u8 x8_2 (rd t102 x18_1) [.int .i64 (rd t102 x18_1)] (fun _ => True) (fun _ => False) rfl rfl ?aP (fun _ hk => hk.elim) ?aF ?aO ?aB ?aS ?aL ?_; (case aP => exact rfl); (case aB => exact Xo); (case aF => exact Xn); (case aO => exact (Qk HO_8.out)); (case aS => exact Xp); (case aL => have := LMc15.out; omega); intro v112 w17 ho hb hg hat; rw [← Ny111.out] at ho; have n0_ := ba_.mk (Kd.ho_ (ok := (fun _ => True)) (by (with_reducible repeat (first | apply Kd.ye_ | apply Kd.ze_ | apply Kd.ag_)); exact Kd.uk_ HO_5.out (fun _ hk => ⟨trivial, hk⟩)) hg hat); have n2_ := ba_.mk (hb); have n3_ := ba_.mk (ho); clear HO_5; clear HB; clear HO_8; have HO_5 := n0_; have HB := n2_; have HO113 := n3_; clear n0_ n2_ n3_; clear ho hb hg hat; obtain ⟨Ao19, co19, eo19⟩ := Kd.td_ HO113.out; subst eo19) | ((with_reducible refine md_ (b := .append) (xs := #[.tmp 37, .tmp 42]) rfl ?_); at_builtin; refine Kd.jn_ (Kd.slice 87 (Kd.int .i64)) (w0 := w) w.heap.size rfl (.tmp 37) (.tmp 42) 123 124 (.slice none 0 0) 24 rfl Tryz.underlying123 uj1_ rfl Qc Qa u5 x5_1 y111 [.slice Ao19 y111.length co19] (fun _ => True) (fun k_ => some k_ = (.slice Ao19 y111.length co19 : Value).ownBlock) rfl rfl ?aP (fun k_ hk_ => ((Kd.fd_ (ok' := fun k_ => ((fun _ => True)) k_ ∧ some k_ ≠ (u5 : Value).ownBlock) (Kd.ne_ (HO113.out) (Kd.ul_ HO_5.out) Qc) (fun k_ hk => ⟨trivial, hk.2⟩))).1 k_ hk_.symm) ?aF ?aO ?aB ?aS ?aL ?_; (case aP => exact Kd.ob1_ (Kd.fd_ (Kd.cq_ rfl (Kd.fd_ (ok' := fun k_ => ((fun _ => True)) k_ ∧ some k_ ≠ (u5 : Value).ownBlock) (Kd.ne_ (HO113.out) (Kd.ul_ HO_5.out) Qc) (fun k_ hk => ⟨trivial, hk.2⟩))) (fun _ h_ => h_))); (case aB => exact Xo); (case aF => exact Xn); (case aO => exact (by (with_reducible repeat (first | apply Kd.ye_ | apply Kd.ze_ | apply Kd.ag_)); exact Kd.uk_ HO_5.out (fun k_ hk => ⟨trivial, fun e_ => hk.2 e_⟩))); (case aS => exact Xp); (case aL => have := LMc16.out; omega); intro v115 w18 ho hb hg hat; rw [← Ny114.out] at ho; have n1_ := ba_.mk (hb); have n2_ := ba_.mk (ho); clear HB; clear HO_5; clear HO113; have HB := n1_; have HO116 := n2_; clear n1_ n2_; clear ho hb hg hat))
       go_roundg k2
       case measure => exact Q7
       case rel => exact ⟨(y114), (wrap64 (x18_1 + 1)), Ql, H', ⟨Q8⟩, ⟨by (with_reducible repeat (first | apply Kd.ye_ | apply Kd.ze_ | apply Kd.ag_)); exact HO116.out⟩, ⟨Qh⟩⟩
      rw [if_pos c9] at H
      have c9b0 := decide_eq_true c9
      clear c9
      obtain ⟨c10, H⟩ := Qq H
      have c10b0 := decide_eq_true c10
      clear c10
      obtain ⟨c11, H⟩ := Qq H
      have c11b0 := decide_eq_true c11
      clear c11
      obtain ⟨t107, A12, H⟩ := Qo H
      try dsimp only at H
      obtain ⟨c13, H⟩ := Qq H
      have LMc13 := ba_.mk c13
      clear c13
      obtain ⟨y108, hy108⟩ : ∃ y_ : List Int, y_ = (x8_2 ++ [t107]) := ⟨_, rfl⟩
      replace H : (fc_.l1 k2 l0 l1 x5_1 x18_1 (rd t102 x18_1) y108 t102 x18_1 l1 (l1.length : Int) (wrap64 (x24_2 + 1))) = some r := by first | (rw [hy108]; with_reducible exact H) | (have H2_ := (Option.bind_some _ _).symm.trans H; rw [hy108]; with_reducible exact H2_) | (have H2_ := (Option.bind_some _ _).symm.trans H; with_reducible exact H2_) | with_reducible exact H | (rw [hy108]; exact H) | exact H
      have Ny108 := ba_.mk hy108
      clear hy108
      have H' := ba_.mk H
      clear H
      have p106 : 0 ≤ (x24_2 : Int) := of_decide_eq_true Qi
      have q106 : x24_2 < (l1.length : Int) := of_decide_eq_true Qi
      obtain ⟨ad106, e106, hx106_0⟩ := Kd.ee_ HR1.out x24_2 p106 q106
      cases e106
      replace hx106_0 := (HB.out.cell (World.block_lt_of_cell? w _ hx106_0)).trans hx106_0
      replace p106 := eq_true p106
      replace q106 := eq_true q106
      go_wp2_with (first | ((with_reducible refine va_ (f := 95) rfl ?_); refine lc_ (some 33) rfl rfl Tryz.func95 Qb rfl #[.slice A0 l0.length c0, .int .i64 (rd l1 x24_2), .int .i64 (wrap64 (x18_1 + 1))] rfl Qm ?_; (with_reducible refine (g_at.calls _ _ l0 (rd l1 x24_2) (wrap64 (x18_1 + 1)) t107 _ ?side1 ?side2 A12.out).mono ?_); (case side1 => exact Xc); (case side2 => exact HC0.out); rintro e w' ⟨rfl, ⟨nd, rfl⟩⟩; refine ⟨_, rfl, ?_⟩) | ((with_reducible refine md_ (b := .append) (xs := #[.tmp 28, .tmp 34]) rfl ?_); at_builtin; refine Kd.yf_ (Kd.int .i64) (w0 := w) w.heap.size rfl (.tmp 28) (.tmp 34) 124 87 (.int .i64 0) 8 rfl Tryz.underlying124 zo_ rfl Qc Qa u8 x8_2 t107 [.int .i64 t107] (fun _ => True) (fun _ => False) rfl rfl ?aP (fun _ hk => hk.elim) ?aF ?aO ?aB ?aS ?aL ?_; (case aP => exact rfl); (case aB => exact Xo); (case aF => exact Xn); (case aO => exact (Qk HO_8.out)); (case aS => exact Xp); (case aL => have := LMc13.out; omega); intro v109 w14 ho hb hg hat; rw [← Ny108.out] at ho; have n0_ := ba_.mk (Kd.ho_ (ok := (fun _ => True)) (by (with_reducible repeat (first | apply Kd.ye_ | apply Kd.ze_ | apply Kd.ag_)); exact Kd.uk_ HO_5.out (fun _ hk => ⟨trivial, hk⟩)) hg hat); have n2_ := ba_.mk (hb); have n3_ := ba_.mk (ho); clear HO_5; clear HB; clear HO_8; have HO_5 := n0_; have HB := n2_; have HO110 := n3_; clear n0_ n2_ n3_; clear ho hb hg hat))
      go_roundg k2
      case measure => exact Q7
      case rel => exact ⟨(y108), (wrap64 (x24_2 + 1)), Ql, H', ⟨Q8⟩, ⟨by (with_reducible repeat (first | apply Kd.ye_ | apply Kd.ze_ | apply Kd.ag_)); exact Kd.uk_ HO_5.out (fun _ hk => hk.2)⟩, ⟨by (with_reducible repeat (first | apply Kd.bb_ | apply Kd.cb_ | apply Kd.sb_)); exact HO110.out⟩, ⟨Qh⟩⟩
   rw [if_neg c5] at H
   have c5b0 := decide_eq_false c5
   clear c5
   obtain ⟨⟨t117, t118⟩, A20, H⟩ := Qo H
   try dsimp only at H
   by_cases c21 : t118 = true
   rotate_left
   ·replace c21 := Bool.eq_false_iff.mpr c21
    subst c21
    have H1 : (some ([] : List Int)) = some r := by rw [if_neg (show ¬ (false = true) by decide)] at H; exact H
    clear H
    have H := H1
    clear H1
    obtain rfl := Option.some.inj H
    obtain ⟨Ao38, co38, eo38⟩ := Kd.mk_ HO_5.out
    subst eo38
    go_wp2_with (first | ((with_reducible refine va_ (f := 96) rfl ?_); refine lc_ (some 47) rfl rfl Tryz.func96 Qb rfl #[.slice Ao38 x5_1.length co38] rfl Qm ?_; (refine (ui_.calls w.heap.size _ _ _ x5_1 t117 false _ HO_5.out (pb_ HB.out) A20.out).mono ?_); rintro e w39 ⟨v119, rfl, ho0, hb⟩; refine ⟨_, rfl, ?_⟩; have n2_ := ba_.mk (Kd.xd_ ho0 (pb_ Qh)); have n3_ := ba_.mk (HB.out.trans hb); clear HB; have HO120 := n2_; have HB := n3_; clear n2_ n3_; (try clear hb); (try clear hb2); (try clear hk); (try clear hi); (try clear ho0)))
    go_ret
    exact ⟨_, Qu, Q9, Qh, by intros; rfl⟩
   subst c21
   have H1 : ((ti_.f l0).bind fun t121 => (fc_.l2 k1 l0 t117 t121 l1 (l1.length : Int) 0)) = some r := by rw [if_pos rfl] at H; exact H
   clear H
   have H := H1
   clear H1
   obtain ⟨t121, A22, H⟩ := Qo H
   try dsimp only at H
   have H' := ba_.mk H
   clear H
   obtain ⟨Ao23, co23, eo23⟩ := Kd.mk_ HO_5.out
   subst eo23
   go_wp2_with (first | ((with_reducible refine va_ (f := 96) rfl ?_); refine lc_ (some 47) rfl rfl Tryz.func96 Qb rfl #[.slice Ao23 x5_1.length co23] rfl Qm ?_; (refine (ui_.calls w.heap.size _ _ _ x5_1 t117 true _ HO_5.out (pb_ HB.out) A20.out).mono ?_); rintro e w24 ⟨v119, rfl, ho0, hb⟩; refine ⟨_, rfl, ?_⟩; have n2_ := ba_.mk (Kd.xd_ ho0 (pb_ Qh)); have n3_ := ba_.mk (HB.out.trans hb); clear HB; have HO120 := n2_; have HB := n3_; clear n2_ n3_; (try clear hb); (try clear hb2); (try clear hk); (try clear hi); (try clear ho0)) | ((with_reducible refine va_ (f := 97) rfl ?_); refine lc_ (some 53) rfl rfl Tryz.func97 Qb rfl #[.slice A0 l0.length c0] rfl Qm ?_; (with_reducible refine (ti_.calls _ _ l0 t121 _ ?side1 ?side2 A22.out).mono ?_); (case side1 => exact Xc); (case side2 => exact HC0.out); rintro e w25 ⟨v122, rfl, ho0, hb⟩; refine ⟨_, rfl, ?_⟩; have n2_ := ba_.mk (Kd.be_ (Qk HO120.out) hb); have n3_ := ba_.mk (Kd.xd_ ho0 (pb_ Qh)); have n4_ := ba_.mk (hb_ Qh hb); clear HO120; clear HB; have HO120 := n2_; have HO123 := n3_; have HB := n4_; clear n2_ n3_ n4_; (try clear hb); (try clear hb2); (try clear hk); (try clear hi); (try clear ho0)))
   go_loopg [56] k1 (fun kq v56 w' => ∃ (x13_2 : List Int) (x56_2 : Int), v56 = .int .i64 x56_2 ∧ ba_ (fc_.l2 kq l0 t117 x13_2 l1 (l1.length : Int) x56_2 = some r) ∧ ba_ (kq ≤ k1) ∧ ba_ (Kd.R (Kd.int .i64) 87 w' w.heap.size (fun _ => True) v119 t117) ∧ ba_ (Kd.R (Kd.int .i64) 3 w' w.heap.size (fun _ => True) v122 x13_2) ∧ ba_ (Below w.heap.size w w'))
   case atStart => exact ⟨(t121), (0), Ql, H', ⟨Nat.le_refl _⟩, ⟨by (with_reducible repeat (first | apply Kd.bb_ | apply Kd.cb_ | apply Kd.sb_)); exact HO120.out⟩, ⟨by (with_reducible repeat (first | apply Kd.bb_ | apply Kd.cb_ | apply Kd.sb_)); exact HO123.out⟩, ⟨Qh⟩⟩
   case round =>
    clear H'
    try clear c1
    try clear p1
    try clear q1
    try clear hx1
    try clear c2
    try clear p2
    try clear c4
    try clear c5
    try clear c5b0
    try clear c6
    try clear c6b0
    try clear p6
    try clear c7
    try clear c7b0
    try clear c9
    try clear c9b0
    try clear c10
    try clear c10b0
    try clear p10
    try clear q10
    try clear hx10
    try clear c11
    try clear c11b0
    try clear c13
    try clear c15
    try clear c16
    try clear c21
    try clear hx105_0
    try clear hx106_0
    try clear p1
    try clear p105
    try clear p106
    try clear p2
    try clear q1
    try clear q105
    try clear q106
    obtain ⟨x13_2, x56_2, rfl, HA, HK2, HO_11, HO_13, HB⟩ := hrel
    cases gk with
    | zero => exact absurd HA.out (by simp [fc_.l2])
    | succ k2 =>
     have H := HA.out
     clear HA
     simp only [fc_.l2] at H
     by_cases c26 : x56_2 < (l1.length : Int)
     rotate_left
     ·rw [if_neg c26] at H
      have c26b0 := decide_eq_false c26
      clear c26
      obtain rfl := Option.some.inj H
      go_wp2
      go_ret
      exact ⟨_, Qu, by (with_reducible repeat (first | apply Kd.bb_ | apply Kd.cb_ | apply Kd.sb_)); exact HO_13.out, Qh, fun hne hr => absurd (by obtain ⟨_, _, e1⟩ := Kd.td_ HO123.out; obtain ⟨_, _, e2⟩ := Kd.td_ HO_13.out; rw [e1] at e2; injection e2 with _ e3 _; rw [hr, (gq_ A22.out).1] at e3; exact List.eq_nil_of_length_eq_zero e3) hne⟩
     rw [if_pos c26] at H
     have c26b0 := decide_eq_true c26
     clear c26
     obtain ⟨c27, H⟩ := Qq H
     have c27b0 := decide_eq_true c27
     clear c27
     by_cases c28 : x56_2 < (l1.length : Int)
     rotate_left
     ·rw [if_neg c28] at H
      exact absurd H Qj
     rw [if_pos c28] at H
     have c28b0 := decide_eq_true c28
     clear c28
     by_cases c29 : 0 ≤ (rd l1 x56_2)
     rotate_left
     ·rw [if_neg c29] at H
      exact absurd H Qj
     rw [if_pos c29] at H
     have c29b0 := decide_eq_true c29
     clear c29
     by_cases c30 : (rd l1 x56_2) < (l0.length : Int)
     rotate_left
     ·rw [if_neg c30] at H
      exact absurd H Qj
     rw [if_pos c30] at H
     have c30b0 := decide_eq_true c30
     clear c30
     obtain ⟨ji31, hji31⟩ : ∃ j_ : Int, (mx (rd l0 (rd l1 x56_2)) 0) = j_ := ⟨_, rfl⟩
     replace H : (if x56_2 < (t117.length : Int) then (if (rd l1 x56_2) < (x13_2.length : Int) then (fc_.l2 k2 l0 t117 (x13_2.set ((rd l1 x56_2) : Int).toNat (Go.bits .xor .i64 (ji31) (rd t117 x56_2))) l1 (l1.length : Int) (wrap64 (x56_2 + 1))) else (none)) else (none)) = some r := by first | (rw [hji31] at H; exact H) | (simp only [hji31] at H ⊢; exact H)
     have hji31_ : (if (rd l0 (rd l1 x56_2)) < 0 then 0 else (rd l0 (rd l1 x56_2))) = ji31 := hji31
     obtain ⟨c32, H⟩ := Qq H
     have c32b0 := decide_eq_true c32
     clear c32
     obtain ⟨c33, H⟩ := Qq H
     have c33b0 := decide_eq_true c33
     clear c33
     obtain ⟨y127, hy127⟩ : ∃ y_ : List Int, y_ = (x13_2.set ((rd l1 x56_2) : Int).toNat (Go.bits .xor .i64 (ji31) (rd t117 x56_2))) := ⟨_, rfl⟩
     replace H : (fc_.l2 k2 l0 t117 y127 l1 (l1.length : Int) (wrap64 (x56_2 + 1))) = some r := by first | (rw [hy127]; with_reducible exact H) | (have H2_ := (Option.bind_some _ _).symm.trans H; rw [hy127]; with_reducible exact H2_) | (have H2_ := (Option.bind_some _ _).symm.trans H; with_reducible exact H2_) | with_reducible exact H | (rw [hy127]; exact H) | exact H
     have Ny127 := ba_.mk hy127
     clear hy127
     have H' := ba_.mk H
     clear H
     have p124 : 0 ≤ (x56_2 : Int) := of_decide_eq_true Qi
     have q124 : x56_2 < (l1.length : Int) := of_decide_eq_true Qi
     obtain ⟨ad124, e124, hx124_0⟩ := Kd.ee_ HR1.out x56_2 p124 q124
     cases e124
     replace hx124_0 := (HB.out.cell (World.block_lt_of_cell? w _ hx124_0)).trans hx124_0
     replace p124 := eq_true p124
     replace q124 := eq_true q124
     try go_wp2
     have n0_ := ba_.mk (Kd.sb_ HO_11.out)
     have n1_ := ba_.mk (Kd.sb_ HO_13.out)
     have n2_ := ba_.mk (ca_ HB.out)
     clear HO_11
     clear HO_13
     clear HB
     have HO_11 := n0_
     have HO_13 := n1_
     have HB := n2_
     clear n0_ n1_ n2_
     have p125 : 0 ≤ ((rd l1 x56_2) : Int) := of_decide_eq_true Qi
     have q125 : (rd l1 x56_2) < (l0.length : Int) := of_decide_eq_true Qi
     obtain ⟨ad125, e125, hx125_0⟩ := Kd.ee_ HR0.out (rd l1 x56_2) p125 q125
     have hw125_0 := hx125_0
     cases e125
     replace hx125_0 := (HB.out.cell (World.block_lt_of_cell? w _ hx125_0)).trans hx125_0
     replace p125 := eq_true p125
     replace q125 := eq_true q125
     obtain ⟨Ao36, co36, eo36⟩ := Kd.td_ HO_11.out
     (first | subst eo36 | (injection eo36 with f1_ f2_ f3_; have f4_ := f1_.symm; have f5_ := f3_.symm; clear f1_ f2_ f3_; subst f4_; subst f5_))
     have p126 : 0 ≤ (x56_2 : Int) := of_decide_eq_true Qi
     have q126 : x56_2 < (t117.length : Int) := of_decide_eq_true Qi
     obtain ⟨ad126, e126, hx126_0⟩ := Kd.ee_ (Kd.wb_ HO_11.out).2.2 x56_2 p126 q126
     cases e126
     replace p126 := eq_true p126
     replace q126 := eq_true q126
     have p34 : 0 ≤ ((rd l1 x56_2) : Int) := of_decide_eq_true Qi
     have q34 : ((rd l1 x56_2) : Int) < ((x13_2.length : Int) : Int) := of_decide_eq_true Qi
     obtain ⟨go34, co34, eo34, gb34, gl34, cl34, HG34⟩ := Kd.zi_ HO_13.out Qa
     (first | cases eo34 | (injection eo34 with ea_ en_ ec_; (first | subst ea_ | (injection ea_ with ea_; subst ea_)); subst ec_; clear en_))
     have GB34 := ba_.mk gb34
     have GG34 := ba_.mk HG34
     clear gb34 gl34 HG34
     obtain ⟨hx34_0, hf34_0⟩ := Kd.ph_ 0 HO_13.out ((rd l1 x56_2) : Int) p34 q34
     replace p34 := eq_true p34
     replace q34 := eq_true q34
     have HP37 := Kd.wo_ HO_13.out ((rd l1 x56_2) : Int) (Go.bits .xor .i64 (ji31) (rd t117 x56_2))
     rw [← Ny127.out] at HP37
     have HQ37 := ba_.mk HP37
     clear HP37
     refine ei_ (n := 14) (S := fun w' => w'.cell? (ad125.add ((rd l1 x56_2)).toNat) = some (.int .i64 (rd l0 (rd l1 x56_2))) ∧ w'.cell? (ad126.add (x56_2).toNat) = some (.int .i64 (rd t117 x56_2))) (ds := [13]) Qav Qb rfl rfl ⟨((HB.out.cell (World.block_lt_of_cell? w _ hw125_0)).trans hw125_0), hx126_0⟩ (fun hHeld => ?_); refine wh_ fc_.tab20 fc_.bits20 (fun HT_ HW_ => ?_)
     generalize wr.drew = w35 at HO_11 HO_13 HB GG34 HQ37 hf34_0 hx125_0 hx126_0 hx34_0 hHeld ⊢
     refine qc_ (i := 0) (N := some 61) (v := ?_) (a' := ?_) Qaw rfl rfl Qn Qe (Or.inl ⟨by rfl, ?_⟩) ?_ ?_
     rotate_left
     ·exact Qg
     rotate_left
     ·exact Qd
     refine qc_ (i := 1) (N := some 62) (v := ?_) (a' := ?_) #[true, true, false, false, false, false, false, false, false, false, false, false, false, false] rfl rfl Qn Qe (Or.inl ⟨by rfl, ?_⟩) ?_ ?_
     rotate_left
     ·exact Qg
     rotate_left
     ·exact Qd
     refine qc_ (i := 2) (N := some 63) (v := ?_) (a' := ?_) #[true, true, true, false, false, false, false, false, false, false, false, false, false, false] rfl rfl Qn Qe (Or.inl ⟨by rfl, ?_⟩) ?_ ?_
     rotate_left
     ·exact Qg
     rotate_left
     ·exact Qd
     refine qc_ (i := 3) (N := some 64) (v := ?_) (a' := ?_) #[true, true, true, true, false, false, false, false, false, false, false, false, false, false] rfl rfl Qn Qe (Or.inl ⟨by rfl, ?_⟩) ?_ ?_
     rotate_left
     ·exact Qg
     rotate_left
     ·exact Qd
     refine qc_ (i := 4) (N := some 65) (v := ?_) (a' := ?_) #[true, true, true, true, true, false, false, false, false, false, false, false, false, false] rfl rfl Qn Qe (Or.inl ⟨by rfl, ?_⟩) ?_ ?_
     rotate_left
     ·exact Qg
     rotate_left
     ·exact Qd
     refine qc_ (i := 7) (N := some 68) (v := ?_) (a' := ?_) #[true, true, true, true, true, false, false, true, false, false, false, false, false, false] rfl rfl Qn Qe (Or.inl ⟨by rfl, ?_⟩) ?_ ?_
     rotate_left
     ·exact Qg
     rotate_left
     ·exact Qd
     refine qc_ (i := 8) (N := some 69) (v := ?_) (a' := ?_) #[true, true, true, true, true, false, false, true, true, false, false, false, false, false] rfl rfl Qn Qe (Or.inl ⟨by rfl, ?_⟩) ?_ ?_
     rotate_left
     ·exact Qg
     rotate_left
     ·exact Qd
     refine qc_ (i := 9) (N := some 70) (v := ?_) (a' := ?_) #[true, true, true, true, true, false, false, true, true, true, false, false, false, false] rfl rfl Qn Qe (Or.inl ⟨by rfl, ?_⟩) ?_ ?_
     rotate_left
     ·exact Qg
     rotate_left
     ·exact Qd
     refine wf_ (i := 5) (N := some 66) (v := ?_) (a' := ?_) #[true, true, true, true, true, true, false, true, true, true, false, false, false, false] rfl rfl (ve_ HT_.out HW_.out Qb) Qe (Or.inl ⟨by rfl, ?_⟩) hHeld ?_ ?_
     rotate_left
     ·exact Xm
     rotate_left
     ·exact Qd
     refine qc_ (i := 6) (N := some 67) (v := ?_) (a' := ?_) #[true, true, true, true, true, true, true, true, true, true, false, false, false, false] rfl rfl Qn Qe (Or.inl ⟨by rfl, ?_⟩) ?_ ?_
     rotate_left
     ·exact Qg
     rotate_left
     ·exact Qd
     refine wf_ (i := 10) (N := some 71) (v := ?_) (a' := ?_) Qax rfl rfl (ve_ HT_.out HW_.out Qb) Qe (Or.inl ⟨by rfl, ?_⟩) hHeld ?_ ?_
     rotate_left
     ·exact Xm
     rotate_left
     ·exact Qd
     refine qc_ (i := 11) (N := some 72) (v := ?_) (a' := ?_) Qay rfl rfl Qn Qe (Or.inl ⟨by rfl, ?_⟩) ?_ ?_
     rotate_left
     ·exact Qg
     rotate_left
     ·exact Qd
     refine qc_ (i := 12) (N := some 73) (v := ?_) (a' := ?_) Qaz rfl rfl Qn Qe (Or.inl ⟨by rfl, ?_⟩) ?_ ?_
     rotate_left
     ·exact Qg
     rotate_left
     ·exact Qd
     refine an_ (i := 13) (N := none) Qa0 rfl rfl Qz Qc (fun K hK => ?_)
     refine em_ (w1 := ?_) (by rfl) rfl ?_ ?_
     rotate_left
     ·go_simp
      rfl
     refine hK.out _ _ ?_
     clear hK K
     refine yk_ Xt ?_
     try go_wp2
     go_roundg k2
     case measure => exact Q7
     case rel => exact ⟨(y127), (wrap64 (x56_2 + 1)), Ql, H', ⟨Q8⟩, ⟨by (with_reducible repeat (first | apply Kd.bb_ | apply Kd.cb_ | apply Kd.sb_)); exact Kd.fd_ (Kd.zf_ (p := ⟨go34, ((rd l1 x56_2) : Int).toNat, none⟩) (Kd.xe_ HO_11.out GG34.out Qc) (fun _ hk => hk.2) (.int .i64 (Go.bits .xor .i64 (ji31) (rd t117 x56_2)))) (fun _ hk => trivial)⟩, ⟨by (with_reducible repeat (first | apply Kd.bb_ | apply Kd.cb_ | apply Kd.sb_)); exact HQ37.out⟩, ⟨by repeat (first | (with_reducible first | exact HB.out | apply da_ | apply aa_ | apply ca_ | refine fa_ ?_ GB34.out) | exact HB.out)⟩⟩
end Go.Proofs.YtpkhgapifnjbeaaGreatDoor.F
end
section
namespace Go.Proofs.YtpkhgapifnjbeaaGreatDoor.F
open RowKit G Zw.PrintWords Zw.PrintLast Zw.PrintMore
attribute [local go_sem] pd_ rd_ yd_ zd_ dd_ ed_ qd_ sd_
end Go.Proofs.YtpkhgapifnjbeaaGreatDoor.F
end
section
namespace Go.Proofs.YtpkhgapifnjbeaaGreatDoor.L
open RowKit G Zw.PrintWords Zw.PrintLast Zw.PrintMore
attribute [local go_sem] pd_ rd_ yd_ zd_ dd_ ed_ qd_ sd_
def errW : Option Int → Value
 | none => .nilIface
 | some c => .iface 0 (.int .i64 c)
theorem ib_ : errW none = .nilIface := rfl
theorem jb_ (c : Int) : errW (some c) = .iface 0 (.int .i64 c) := rfl
theorem zh_ : (Tryz.prog.info? 3).map (fun i => (i.zero, i.size, i.bytes)) = some (some (.int .i64 0), 1, 8) := by kernel_rfl
theorem zo_ : (Tryz.prog.info? 87).map (fun i => (i.zero, i.size, i.bytes)) = some (some (.int .i64 0), 1, 8) := by kernel_rfl
theorem tj1_ : (Tryz.prog.info? 124).map (fun i => (i.zero, i.size, i.bytes)) = some (some (.slice none 0 0), 1, 24) := by kernel_rfl
def kf_ (xs : List (List Int)) (i : Int) : (List Int) := xs.getD i.toNat ([] : List Int)
end Go.Proofs.YtpkhgapifnjbeaaGreatDoor.L
end
