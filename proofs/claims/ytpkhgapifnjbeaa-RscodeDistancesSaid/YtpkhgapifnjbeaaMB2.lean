/- A part of the proofs of this seat's statements (texts put together by pack2.py of this claim's repo). -/
import Derived.Test.YtpkhgapifnjbeaaProg
import Derived.Below
import Derived.Deep.Draws
import Derived.Deep.AppendLies
import Derived.Maps.AppendAt
import Derived.OwnWalk
import Derived.Laws.BytesArg
import Derived.Laws.MakeOwn
import Derived.Laws.OwnMore
import Derived.Deep.OwnRows
import Derived.Tactics
import Derived.Lib.ConvBytes
import Derived.Laws.Slices
import Derived.WalkKit
import Derived.KernelRfl
import Derived.RowKit3
import Derived.Deep.LoopGhost
import Derived.Deep.QuietTactic
import Derived.BigQuiet
import Derived.WideLaws
import Derived.Deep.DeepCutAuto
import Derived.Deep.CutBlock
import Derived.Deep.RegionHeld3
import Derived.Laws.Rows
import Derived.Lib.AppendStr
import Derived.ArgAppend
import Derived.Laws.IdiomCopy
import Derived.OrdersHeld
import Derived.Laws.BitsLemmas
import Derived.RowKit
import Derived.Deep.WholeRow
import Derived.Test.YtpkhgapifnjbeaaMB1
section
namespace Go.Proofs.Ytpkhgapifnjbeaa.Q
open Go.RowKit Go.Proofs.Ytpkhgapifnjbeaa.G Go.Proofs.YtpkhgapifnjbeaaW.PrintWords Go.Proofs.YtpkhgapifnjbeaaW.PrintLast Go.Proofs.YtpkhgapifnjbeaaW.PrintMore
attribute [local go_sem] dd_ fd_ rd_ sd_ uc_ vc_ ed_ gd_
set_option linter.unusedVariables false
set_option linter.unusedSimpArgs false
def mc_.f (a0 : Int) : Option (Bool) := if a0 ≥ 0 then (some (decide (a0 < 32))) else (some false)
set_option maxHeartbeats 8000000 in
set_option maxRecDepth 100000 in
theorem mc_.calls (a0 : Int) (r : Bool) (w : World) (h : mc_.f a0 = some r) :
  Calls Try.prog 40 #[.int .i64 a0] w fun e w' => e = .returned (.bool r) ∧ ra_ w w' := by
 have H : (if a0 ≥ 0 then (some (decide (a0 < 32))) else (some false)) = some r := h
 clear h
 by_cases c2 : a0 ≥ 0
 ·rw [if_pos c2] at H
  have c2b0 : decide (0 ≤ a0) = true := decide_eq_true c2
  clear c2
  obtain rfl := Option.some.inj H
  go_enter Try.func40, Try.ntmps40
  go_wp2
  go_ret
  exact ⟨by first | rfl | (simp; done) | (simp [*]; done), by repeat (first | exact ra_.refl _ | apply ra_.step)⟩
 ·rw [if_neg c2] at H
  have c2b0 : decide (0 ≤ a0) = false := decide_eq_false c2
  clear c2
  obtain rfl := Option.some.inj H
  go_enter Try.func40, Try.ntmps40
  go_wp2
  go_ret
  exact ⟨by first | rfl | (simp; done) | (simp [*]; done), by repeat (first | exact ra_.refl _ | apply ra_.step)⟩
def ac_.l0 : Nat → List Int → Int → Int → Int → Option (Int)
 | 0, _, _, _, _ => none
 | k + 1, x0, x5, x6, x7 => if x7 < (x0.length : Int) then ((ls_.f x5 x6).bind fun t102 => (if 0 ≤ x7 then (ac_.l0 k x0 (Go.bits .xor .i64 t102 (rd x0 x7)) x6 (wrap64 (x7 + 1))) else (none))) else (some x5)
def ac_.f (k : Nat) (l0 : List Int) (a1 : Int) : Option (Int) := (gh_.f a1).bind fun t101 => (ac_.l0 k l0 0 t101 0)
theorem ac_.xc_ : ∀ k, (∀ y0 y1 y2 y3, LeO (ac_.l0 k y0 y1 y2 y3) (ac_.l0 (k + 1) y0 y1 y2 y3))
 | 0 => fun _ _ _ _ r h => by simp [ac_.l0] at h
 | k + 1 => by
  have ih0 := ac_.xc_ k
  ·intro y0 y1 y2 y3
   unfold ac_.l0
   repeat' first
   | (with_reducible exact ih0 _ _ _ _)
   | (with_reducible exact LeO.refl _)
   | (with_reducible exact LeO.none _)
   | (with_reducible refine LeO.ite ?_ ?_)
   | (with_reducible refine LeO.bind ?_ (fun _ => ?_))
   | exact ih0 _ _ _ _
   | exact LeO.none _
   | refine LeO.ite ?_ ?_
   | refine LeO.bind ?_ (fun _ => ?_)
theorem ac_.mono : ∀ a0 a1 k, LeO (ac_.f k a0 a1) (ac_.f (k + 1) a0 a1) := by
 intro a0 a1 k
 have ih0 := ac_.xc_ k
 unfold ac_.f
 repeat' first
   | (with_reducible exact ih0 _ _ _ _)
   | (with_reducible exact LeO.refl _)
   | (with_reducible exact LeO.none _)
   | (with_reducible refine LeO.ite ?_ ?_)
   | (with_reducible refine LeO.bind ?_ (fun _ => ?_))
   | exact ih0 _ _ _ _
   | exact LeO.none _
   | refine LeO.ite ?_ ?_
   | refine LeO.bind ?_ (fun _ => ?_)
set_option maxHeartbeats 8000000 in
set_option maxRecDepth 100000 in
theorem ac_.calls (k : Nat) (A0 : Option Addr) (c0 : Nat) (l0 : List Int) (a1 : Int) (r : Int) (w : World) (hr0 : Kd.C (Kd.int .i64) w A0 l0.length l0) (hc0 : l0.length ≤ c0) (h : ac_.f k l0 a1 = some r) :
  Calls Try.prog 52 #[.slice A0 l0.length c0, .int .i64 a1] w fun e w' => e = .returned (.int .i64 r) ∧ Below w.heap.size w w' := by
 have HR0 := ba_.mk hr0
 have HC0 := ba_.mk hc0
 clear hr0 hc0
 have HB := ba_.mk (Below.refl w.heap.size w)
 have H : ((gh_.f a1).bind fun t101 => (ac_.l0 k l0 0 t101 0)) = some r := h
 clear h
 replace H := Option.bind_eq_some_iff.mp H
 obtain ⟨t101, A30, H⟩ := H
 replace H : (ac_.l0 k l0 0 t101 0) = some r := H
 have A3 := ba_.mk A30
 clear A30
 have H' := ba_.mk H
 clear H
 go_enter Try.func52, Try.ntmps52
 go_wp2_with (first | (go_at_call 21; (with_reducible refine (gh_.calls a1 t101 _ A3.out).mono ?_); rintro e w4 ⟨rfl, hb⟩; have n0_ := ba_.mk (gb_ (by repeat (first | (with_reducible first | exact HB.out | apply fa_ | apply ca_ | apply ga_) | exact HB.out)) hb); clear HB; have HB := n0_; clear n0_; (try clear hb); (try clear hb2); (try clear hk); (try clear hi)))
 repeat (go_quiet (first | (go_at_call 21; (with_reducible refine (gh_.calls a1 t101 _ A3.out).mono ?_); rintro e w4 ⟨rfl, hb⟩; have n0_ := ba_.mk (gb_ (by repeat (first | (with_reducible first | exact HB.out | apply fa_ | apply ca_ | apply ga_) | exact HB.out)) hb); clear HB; have HB := n0_; clear n0_; (try clear hb); (try clear hb2); (try clear hk); (try clear hi))); try go_wp2_with (first | (go_at_call 21; (with_reducible refine (gh_.calls a1 t101 _ A3.out).mono ?_); rintro e w4 ⟨rfl, hb⟩; have n0_ := ba_.mk (gb_ (by repeat (first | (with_reducible first | exact HB.out | apply fa_ | apply ca_ | apply ga_) | exact HB.out)) hb); clear HB; have HB := n0_; clear n0_; (try clear hb); (try clear hb2); (try clear hk); (try clear hi))))
 go_loopg [5, 7] k (fun kq v5 v7 w' => ∃ (x5_1 : Int) (x7_1 : Int), v5 = .int .i64 x5_1 ∧ v7 = .int .i64 x7_1 ∧ ba_ (ac_.l0 kq l0 x5_1 t101 x7_1 = some r) ∧ ba_ (kq ≤ k) ∧ ba_ (Below w.heap.size w w'))
 case atStart => exact ⟨(0), (0), (by first | rfl | (simp; done) | (simp [*]; done)), (by first | rfl | (simp; done) | (simp [*]; done)), H', ⟨Nat.le_refl _⟩, ⟨by repeat (first | (with_reducible first | exact HB.out | apply fa_ | apply ca_ | apply ga_) | exact HB.out)⟩⟩
 case round =>
  clear H'
  try clear p2
  obtain ⟨x5_1, x7_1, rfl, rfl, HA, HK1, HB⟩ := hrel
  cases gk with
  | zero => exact absurd HA.out (by simp [ac_.l0])
  | succ k1 =>
   have H := HA.out
   clear HA
   simp only [ac_.l0] at H
   by_cases c5 : x7_1 < (l0.length : Int)
   ·rw [if_pos c5] at H
    have c5b0 : decide (x7_1 < (l0.length : Int)) = true := decide_eq_true c5
    clear c5
    replace H := Option.bind_eq_some_iff.mp H
    obtain ⟨t102, A60, H⟩ := H
    replace H : (if 0 ≤ x7_1 then (ac_.l0 k1 l0 (Go.bits .xor .i64 t102 (rd l0 x7_1)) t101 (wrap64 (x7_1 + 1))) else (none)) = some r := H
    have A6 := ba_.mk A60
    clear A60
    by_cases c7 : 0 ≤ x7_1
    ·rw [if_pos c7] at H
     have c7b0 : decide (0 ≤ x7_1) = true := decide_eq_true c7
     clear c7
     have H' := ba_.mk H
     clear H
     go_wp2_with (first | (go_at_call 16; (with_reducible refine (ls_.calls x5_1 t101 t102 _ A6.out).mono ?_); rintro e w' ⟨rfl, ⟨nd, rfl⟩⟩; (try first | exact ⟨rfl, _, World.drewN_drewN _ _ _⟩ | exact ⟨rfl, _, Eq.trans (World.drewN_drewN _ _ _) (congrArg (World.drewN _) (Nat.add_assoc _ _ _))⟩); have p103 : 0 ≤ (x7_1 : Int) := of_decide_eq_true (by first | (with_reducible assumption) | assumption); have q103 : x7_1 < (l0.length : Int) := of_decide_eq_true (by first | (with_reducible assumption) | assumption); obtain ⟨ad103, e103, hx103_0⟩ := Kd.nd_ HR0.out x7_1 p103 q103; cases e103; replace hx103_0 := (HB.out.cell (World.block_lt_of_cell? w _ hx103_0)).trans hx103_0; replace p103 := eq_true p103; replace q103 := eq_true q103))
     repeat (go_quiet (first | (go_at_call 16; (with_reducible refine (ls_.calls x5_1 t101 t102 _ A6.out).mono ?_); rintro e w' ⟨rfl, ⟨nd, rfl⟩⟩; (try first | exact ⟨rfl, _, World.drewN_drewN _ _ _⟩ | exact ⟨rfl, _, Eq.trans (World.drewN_drewN _ _ _) (congrArg (World.drewN _) (Nat.add_assoc _ _ _))⟩); have p103 : 0 ≤ (x7_1 : Int) := of_decide_eq_true (by first | (with_reducible assumption) | assumption); have q103 : x7_1 < (l0.length : Int) := of_decide_eq_true (by first | (with_reducible assumption) | assumption); obtain ⟨ad103, e103, hx103_0⟩ := Kd.nd_ HR0.out x7_1 p103 q103; cases e103; replace hx103_0 := (HB.out.cell (World.block_lt_of_cell? w _ hx103_0)).trans hx103_0; replace p103 := eq_true p103; replace q103 := eq_true q103)); try go_wp2_with (first | (go_at_call 16; (with_reducible refine (ls_.calls x5_1 t101 t102 _ A6.out).mono ?_); rintro e w' ⟨rfl, ⟨nd, rfl⟩⟩; (try first | exact ⟨rfl, _, World.drewN_drewN _ _ _⟩ | exact ⟨rfl, _, Eq.trans (World.drewN_drewN _ _ _) (congrArg (World.drewN _) (Nat.add_assoc _ _ _))⟩); have p103 : 0 ≤ (x7_1 : Int) := of_decide_eq_true (by first | (with_reducible assumption) | assumption); have q103 : x7_1 < (l0.length : Int) := of_decide_eq_true (by first | (with_reducible assumption) | assumption); obtain ⟨ad103, e103, hx103_0⟩ := Kd.nd_ HR0.out x7_1 p103 q103; cases e103; replace hx103_0 := (HB.out.cell (World.block_lt_of_cell? w _ hx103_0)).trans hx103_0; replace p103 := eq_true p103; replace q103 := eq_true q103)))
     go_roundg k1
     case measure => have := HK1.out; omega
     case rel => exact ⟨(Go.bits .xor .i64 t102 (rd l0 x7_1)), (wrap64 (x7_1 + 1)), (by first | rfl | (simp; done) | (simp [*]; done)), (by first | rfl | (simp; done) | (simp [*]; done)), H', ⟨by have := HK1.out; omega⟩, ⟨by repeat (first | (with_reducible first | exact HB.out | apply fa_ | apply ca_ | apply ga_) | exact HB.out)⟩⟩
    ·rw [if_neg c7] at H
     exact absurd H (by simp)
   ·rw [if_neg c5] at H
    have c5b0 : decide (x7_1 < (l0.length : Int)) = false := decide_eq_false c5
    clear c5
    obtain rfl := Option.some.inj H
    go_wp2
    repeat (go_quiet (fail); try go_wp2)
    go_ret
    exact ⟨by first | rfl | (simp [bb_, cb_] <;> rfl) | (simp [*, bb_, cb_] <;> rfl), by repeat (first | (with_reducible first | exact HB.out | apply fa_ | apply ca_ | apply ga_) | exact HB.out)⟩
mutual
def sa_.j0 : Nat → List Int → Int → Bool → Option (Bool)
 | 0, _, _, _ => none
 | k + 1, x0, x1, x13 => if x13 = true then (some false) else (sa_.l0 k x0 x1 0)
def sa_.l0 : Nat → List Int → Int → Int → Option (Bool)
 | 0, _, _, _ => none
 | k + 1, x0, x1, x5 => if x5 < (x0.length : Int) then (if 0 ≤ x5 then (if (rd x0 x5) < x1 then (some false) else (if (rd x0 x5) > 31 then (some false) else (sa_.l0 k x0 x1 (wrap64 (x5 + 1))))) else (none)) else (some true)
end
def sa_.f (k : Nat) (l0 : List Int) (a1 : Int) : Option (Bool) := if (l0.length : Int) < 7 then (sa_.j0 k l0 a1 true) else (sa_.j0 k l0 a1 (decide ((l0.length : Int) > 15)))
theorem sa_.xc_ : ∀ k, (∀ y0 y1 y2, LeO (sa_.j0 k y0 y1 y2) (sa_.j0 (k + 1) y0 y1 y2)) ∧ (∀ y0 y1 y2, LeO (sa_.l0 k y0 y1 y2) (sa_.l0 (k + 1) y0 y1 y2))
 | 0 => ⟨fun _ _ _ r h => by simp [sa_.j0] at h, fun _ _ _ r h => by simp [sa_.l0] at h⟩
 | k + 1 => by
  obtain ⟨ih0, ih1⟩ := sa_.xc_ k
  refine ⟨?_, ?_⟩
  ·intro y0 y1 y2
   unfold sa_.j0
   repeat' first
   | (with_reducible exact ih0 _ _ _)
   | (with_reducible exact ih1 _ _ _)
   | (with_reducible exact LeO.refl _)
   | (with_reducible exact LeO.none _)
   | (with_reducible refine LeO.ite ?_ ?_)
   | (with_reducible refine LeO.bind ?_ (fun _ => ?_))
   | exact ih0 _ _ _
   | exact ih1 _ _ _
   | exact LeO.none _
   | refine LeO.ite ?_ ?_
   | refine LeO.bind ?_ (fun _ => ?_)
  ·intro y0 y1 y2
   unfold sa_.l0
   repeat' first
   | (with_reducible exact ih0 _ _ _)
   | (with_reducible exact ih1 _ _ _)
   | (with_reducible exact LeO.refl _)
   | (with_reducible exact LeO.none _)
   | (with_reducible refine LeO.ite ?_ ?_)
   | (with_reducible refine LeO.bind ?_ (fun _ => ?_))
   | exact ih0 _ _ _
   | exact ih1 _ _ _
   | exact LeO.none _
   | refine LeO.ite ?_ ?_
   | refine LeO.bind ?_ (fun _ => ?_)
theorem sa_.mono : ∀ a0 a1 k, LeO (sa_.f k a0 a1) (sa_.f (k + 1) a0 a1) := by
 intro a0 a1 k
 obtain ⟨ih0, ih1⟩ := sa_.xc_ k
 unfold sa_.f
 repeat' first
   | (with_reducible exact ih0 _ _ _)
   | (with_reducible exact ih1 _ _ _)
   | (with_reducible exact LeO.refl _)
   | (with_reducible exact LeO.none _)
   | (with_reducible refine LeO.ite ?_ ?_)
   | (with_reducible refine LeO.bind ?_ (fun _ => ?_))
   | exact ih0 _ _ _
   | exact ih1 _ _ _
   | exact LeO.none _
   | refine LeO.ite ?_ ?_
   | refine LeO.bind ?_ (fun _ => ?_)
set_option maxHeartbeats 8000000 in
set_option maxRecDepth 100000 in
theorem sa_.calls (k : Nat) (A0 : Option Addr) (c0 : Nat) (l0 : List Int) (a1 : Int) (r : Bool) (w : World) (hr0 : Kd.C (Kd.int .i64) w A0 l0.length l0) (hc0 : l0.length ≤ c0) (h : sa_.f k l0 a1 = some r) :
  Calls Try.prog 51 #[.slice A0 l0.length c0, .int .i64 a1] w fun e w' => e = .returned (.bool r) ∧ ra_ w w' := by
 have HR0 := ba_.mk hr0
 have HC0 := ba_.mk hc0
 clear hr0 hc0
 have H : (if (l0.length : Int) < 7 then (sa_.j0 k l0 a1 true) else (sa_.j0 k l0 a1 (decide ((l0.length : Int) > 15)))) = some r := h
 clear h
 have HC3 := ba_.mk H
 clear H
 go_enter Try.func51, Try.ntmps51
 go_upto_region 1 with (fail)
 go_cut [13] (fun v13 wc => ∃ (kq : Nat) (x13_2 : Bool), v13 = .bool x13_2 ∧ ba_ (sa_.j0 kq l0 a1 x13_2 = some r) ∧ ba_ (kq ≤ k) ∧ ra_ w wc)
 case first =>
  have H := HC3.out
  clear HC3
  by_cases c4 : (l0.length : Int) < 7
  ·rw [if_pos c4] at H
   have c4b0 : decide ((l0.length : Int) < 7) = true := decide_eq_true c4
   have c4b1 : decide (l0.length < 7) = true := decide_eq_true (by omega)
   clear c4
   (first | rw [c4b0] | (simp only [gc_, lc_]; rw [c4b0]) | skip)
   have H' := ba_.mk H
   clear H
   go_wp2
   go_meet
   case rel => exact ⟨_, (true), (by first | rfl | (simp; done) | (simp [*]; done)), H', ⟨by first | omega | exact Nat.le_refl _⟩, by repeat (first | exact ra_.refl _ | apply ra_.step)⟩
  ·rw [if_neg c4] at H
   have c4b0 : decide ((l0.length : Int) < 7) = false := decide_eq_false c4
   have c4b1 : decide (l0.length < 7) = false := decide_eq_false (by omega)
   clear c4
   (first | rw [c4b0] | (simp only [gc_, lc_]; rw [c4b0]) | skip)
   have H' := ba_.mk H
   clear H
   go_wp2
   go_meet
   case rel => exact ⟨_, (decide ((l0.length : Int) > 15)), (by first | rfl | (simp; done) | (simp [*]; done)), H', ⟨by first | omega | exact Nat.le_refl _⟩, by repeat (first | exact ra_.refl _ | apply ra_.step)⟩
 case rest =>
  clear HC3
  try clear p2
  try clear c4
  try clear c4b0
  try clear c4b1
  obtain ⟨kq, x13_2, rfl, HA, HJ2, ⟨mc2, rfl⟩⟩ := hcut
  cases kq with
  | zero => exact absurd HA.out (by simp [sa_.j0])
  | succ kj2 =>
   have H := HA.out
   clear HA
   simp only [sa_.j0] at H
   by_cases c5 : x13_2 = true
   ·subst c5
    have H1 : (some false) = some r := by rw [if_pos rfl] at H; exact H
    clear H
    have H := H1
    clear H1
    obtain rfl := Option.some.inj H
    go_wp2
    go_ret
    exact ⟨by first | rfl | (simp; done) | (simp [*]; done), by repeat (first | exact ra_.refl _ | apply ra_.step)⟩
   ·replace c5 := Bool.eq_false_iff.mpr c5
    subst c5
    have H1 : (sa_.l0 kj2 l0 a1 0) = some r := by rw [if_neg (show ¬ (false = true) by decide)] at H; exact H
    clear H
    have H := H1
    clear H1
    have H' := ba_.mk H
    clear H
    go_wp2
    go_loopg [5] kj2 (fun kq v5 w' => ∃ (x5_2 : Int), v5 = .int .i64 x5_2 ∧ ba_ (sa_.l0 kq l0 a1 x5_2 = some r) ∧ ba_ (kq ≤ kj2) ∧ ra_ w w')
    case atStart => exact ⟨(0), (by first | rfl | (simp; done) | (simp [*]; done)), H', ⟨Nat.le_refl _⟩, by repeat (first | exact ra_.refl _ | apply ra_.step)⟩
    case round =>
     clear H'
     try clear c2
     try clear p2
     try clear c4
     try clear c4b0
     try clear c4b1
     try clear c5
     try clear p2
     obtain ⟨x5_2, rfl, HA, HK2, ⟨m2, rfl⟩⟩ := hrel
     cases gk with
     | zero => exact absurd HA.out (by simp [sa_.l0])
     | succ k2 =>
      have H := HA.out
      clear HA
      simp only [sa_.l0] at H
      by_cases c6 : x5_2 < (l0.length : Int)
      ·rw [if_pos c6] at H
       have c6b0 : decide (x5_2 < (l0.length : Int)) = true := decide_eq_true c6
       clear c6
       by_cases c7 : 0 ≤ x5_2
       ·rw [if_pos c7] at H
        have c7b0 : decide (0 ≤ x5_2) = true := decide_eq_true c7
        clear c7
        by_cases c8 : (rd l0 x5_2) < a1
        ·rw [if_pos c8] at H
         have c8b0 : decide ((rd l0 x5_2) < a1) = true := decide_eq_true c8
         clear c8
         obtain rfl := Option.some.inj H
         have p104 : 0 ≤ (x5_2 : Int) := of_decide_eq_true (by first | (with_reducible assumption) | assumption)
         have q104 : x5_2 < (l0.length : Int) := of_decide_eq_true (by first | (with_reducible assumption) | assumption)
         obtain ⟨ad104, e104, hx104_0⟩ := Kd.nd_ HR0.out x5_2 p104 q104
         cases e104
         replace p104 := eq_true p104
         replace q104 := eq_true q104
         go_wp2
         go_ret
         exact ⟨by first | rfl | (simp; done) | (simp [*]; done), by repeat (first | exact ra_.refl _ | apply ra_.step)⟩
        ·rw [if_neg c8] at H
         have c8b0 : decide ((rd l0 x5_2) < a1) = false := decide_eq_false c8
         clear c8
         by_cases c9 : (rd l0 x5_2) > 31
         ·rw [if_pos c9] at H
          have c9b0 : decide (31 < (rd l0 x5_2)) = true := decide_eq_true c9
          clear c9
          obtain rfl := Option.some.inj H
          have p104 : 0 ≤ (x5_2 : Int) := of_decide_eq_true (by first | (with_reducible assumption) | assumption)
          have q104 : x5_2 < (l0.length : Int) := of_decide_eq_true (by first | (with_reducible assumption) | assumption)
          obtain ⟨ad104, e104, hx104_0⟩ := Kd.nd_ HR0.out x5_2 p104 q104
          cases e104
          replace p104 := eq_true p104
          replace q104 := eq_true q104
          have p105 : 0 ≤ (x5_2 : Int) := of_decide_eq_true (by first | (with_reducible assumption) | assumption)
          have q105 : x5_2 < (l0.length : Int) := of_decide_eq_true (by first | (with_reducible assumption) | assumption)
          obtain ⟨ad105, e105, hx105_0⟩ := Kd.nd_ HR0.out x5_2 p105 q105
          obtain rfl : ad104 = ad105 := (by injection e105)
          replace p105 := eq_true p105
          replace q105 := eq_true q105
          go_wp2
          go_ret
          exact ⟨by first | rfl | (simp; done) | (simp [*]; done), by repeat (first | exact ra_.refl _ | apply ra_.step)⟩
         ·rw [if_neg c9] at H
          have c9b0 : decide (31 < (rd l0 x5_2)) = false := decide_eq_false c9
          clear c9
          have H' := ba_.mk H
          clear H
          have p104 : 0 ≤ (x5_2 : Int) := of_decide_eq_true (by first | (with_reducible assumption) | assumption)
          have q104 : x5_2 < (l0.length : Int) := of_decide_eq_true (by first | (with_reducible assumption) | assumption)
          obtain ⟨ad104, e104, hx104_0⟩ := Kd.nd_ HR0.out x5_2 p104 q104
          cases e104
          replace p104 := eq_true p104
          replace q104 := eq_true q104
          have p105 : 0 ≤ (x5_2 : Int) := of_decide_eq_true (by first | (with_reducible assumption) | assumption)
          have q105 : x5_2 < (l0.length : Int) := of_decide_eq_true (by first | (with_reducible assumption) | assumption)
          obtain ⟨ad105, e105, hx105_0⟩ := Kd.nd_ HR0.out x5_2 p105 q105
          obtain rfl : ad104 = ad105 := (by injection e105)
          replace p105 := eq_true p105
          replace q105 := eq_true q105
          go_wp2
          go_roundg k2
          case measure => have := HJ2.out; have := HK2.out; omega
          case rel => exact ⟨(wrap64 (x5_2 + 1)), (by first | rfl | (simp; done) | (simp [*]; done)), H', ⟨by have := HJ2.out; have := HK2.out; omega⟩, by repeat (first | exact ra_.refl _ | apply ra_.step)⟩
       ·rw [if_neg c7] at H
        exact absurd H (by simp)
      ·rw [if_neg c6] at H
       have c6b0 : decide (x5_2 < (l0.length : Int)) = false := decide_eq_false c6
       clear c6
       obtain rfl := Option.some.inj H
       go_wp2
       go_ret
       exact ⟨by first | rfl | (simp; done) | (simp [*]; done), by repeat (first | exact ra_.refl _ | apply ra_.step)⟩
def dc_.l0 : Nat → List Int → Int → Option (Bool)
 | 0, _, _ => none
 | k + 1, x0, x3 => if x3 ≤ 6 then ((ac_.f k x0 x3).bind fun t107 => (if t107 = 0 then (dc_.l0 k x0 (wrap64 (x3 + 1))) else (some false))) else (some true)
def dc_.f (k : Nat) (l0 : List Int) : Option (Bool) := (sa_.f k l0 0).bind fun t106 => (if t106 = true then (dc_.l0 k l0 1) else (some false))
theorem dc_.xc_ : ∀ k, (∀ y0 y1, LeO (dc_.l0 k y0 y1) (dc_.l0 (k + 1) y0 y1))
 | 0 => fun _ _ r h => by simp [dc_.l0] at h
 | k + 1 => by
  have ih0 := dc_.xc_ k
  ·intro y0 y1
   unfold dc_.l0
   repeat' first
   | (with_reducible exact ih0 _ _)
   | (with_reducible exact ac_.mono _ _ _)
   | (with_reducible exact sa_.mono _ _ _)
   | (with_reducible exact LeO.refl _)
   | (with_reducible exact LeO.none _)
   | (with_reducible refine LeO.ite ?_ ?_)
   | (with_reducible refine LeO.bind ?_ (fun _ => ?_))
   | exact ih0 _ _
   | exact ac_.mono _ _ _
   | exact sa_.mono _ _ _
   | exact LeO.none _
   | refine LeO.ite ?_ ?_
   | refine LeO.bind ?_ (fun _ => ?_)
theorem dc_.mono : ∀ a0 k, LeO (dc_.f k a0) (dc_.f (k + 1) a0) := by
 intro a0 k
 have ih0 := dc_.xc_ k
 unfold dc_.f
 repeat' first
   | (with_reducible exact ih0 _ _)
   | (with_reducible exact ac_.mono _ _ _)
   | (with_reducible exact sa_.mono _ _ _)
   | (with_reducible exact LeO.refl _)
   | (with_reducible exact LeO.none _)
   | (with_reducible refine LeO.ite ?_ ?_)
   | (with_reducible refine LeO.bind ?_ (fun _ => ?_))
   | exact ih0 _ _
   | exact ac_.mono _ _ _
   | exact sa_.mono _ _ _
   | exact LeO.none _
   | refine LeO.ite ?_ ?_
   | refine LeO.bind ?_ (fun _ => ?_)
set_option maxHeartbeats 8000000 in
set_option maxRecDepth 100000 in
theorem dc_.calls (k : Nat) (A0 : Option Addr) (c0 : Nat) (l0 : List Int) (r : Bool) (w : World) (hr0 : Kd.C (Kd.int .i64) w A0 l0.length l0) (hc0 : l0.length ≤ c0) (h : dc_.f k l0 = some r) :
  Calls Try.prog 33 #[.slice A0 l0.length c0] w fun e w' => e = .returned (.bool r) ∧ Below w.heap.size w w' := by
 have HR0 := ba_.mk hr0
 have HC0 := ba_.mk hc0
 clear hr0 hc0
 have HB := ba_.mk (Below.refl w.heap.size w)
 have H : ((sa_.f k l0 0).bind fun t106 => (if t106 = true then (dc_.l0 k l0 1) else (some false))) = some r := h
 clear h
 replace H := Option.bind_eq_some_iff.mp H
 obtain ⟨t106, A20, H⟩ := H
 replace H : (if t106 = true then (dc_.l0 k l0 1) else (some false)) = some r := H
 have A2 := ba_.mk A20
 clear A20
 by_cases c3 : t106 = true
 ·subst c3
  have H1 : (dc_.l0 k l0 1) = some r := by rw [if_pos rfl] at H; exact H
  clear H
  have H := H1
  clear H1
  have H' := ba_.mk H
  clear H
  go_enter Try.func33, Try.ntmps33
  go_wp2_with (first | ((with_reducible refine ua_ (f := 51) rfl ?_); refine hc_ (some 5) rfl rfl Try.func51 (by kernel_rfl) rfl #[.slice A0 l0.length c0, .int .i64 0] rfl (by (try simp only [List.map_toArray, List.map_cons, List.map_nil]); first | done | rfl | (simp only [List.length_drop, List.length_take]; rfl)) ?_; (with_reducible refine (sa_.calls k _ _ l0 0 true _ ?side1 ?side2 A2.out).mono ?_); (case side1 => repeat (first | exact HR0.out | (with_reducible refine Kd.yb_ ?_ _) | (with_reducible refine Kd.zb_ ?_ _) | (with_reducible refine Kd.jc_ ?_))); (case side2 => exact HC0.out); rintro e w' ⟨rfl, ⟨nd, rfl⟩⟩; refine ⟨_, rfl, ?_⟩))
  go_loopg [3] k (fun kq v3 w' => ∃ (x3_1 : Int), v3 = .int .i64 x3_1 ∧ ba_ (dc_.l0 kq l0 x3_1 = some r) ∧ ba_ (kq ≤ k) ∧ ba_ (Below w.heap.size w w'))
  case atStart => exact ⟨(1), (by first | rfl | (simp; done) | (simp [*]; done)), H', ⟨Nat.le_refl _⟩, ⟨by repeat (first | (with_reducible first | exact HB.out | apply fa_ | apply ca_ | apply ga_) | exact HB.out)⟩⟩
  case round =>
   clear H'
   try clear p2
   try clear c3
   obtain ⟨x3_1, rfl, HA, HK1, HB⟩ := hrel
   cases gk with
   | zero => exact absurd HA.out (by simp [dc_.l0])
   | succ k1 =>
    have H := HA.out
    clear HA
    simp only [dc_.l0] at H
    by_cases c4 : x3_1 ≤ 6
    ·rw [if_pos c4] at H
     have c4b0 : decide (x3_1 ≤ 6) = true := decide_eq_true c4
     clear c4
     replace H := Option.bind_eq_some_iff.mp H
     obtain ⟨t107, A50, H⟩ := H
     replace H : (if t107 = 0 then (dc_.l0 k1 l0 (wrap64 (x3_1 + 1))) else (some false)) = some r := H
     have A5 := ba_.mk A50
     clear A50
     by_cases c6 : t107 = 0
     ·rw [if_pos c6] at H
      have c6b0 : (t107 == 0) = true := beq_iff_eq.mpr c6
      have c6b1 : (t107 != 0) = false := bne_eq_false_iff_eq.mpr c6
      clear c6
      have H' := ba_.mk H
      clear H
      go_wp2_with (first | ((with_reducible refine ua_ (f := 52) rfl ?_); refine hc_ (some 13) rfl rfl Try.func52 (by kernel_rfl) rfl #[.slice A0 l0.length c0, .int .i64 x3_1] rfl (by (try simp only [List.map_toArray, List.map_cons, List.map_nil]); first | done | rfl | (simp only [List.length_drop, List.length_take]; rfl)) ?_; (with_reducible refine (ac_.calls k1 _ _ l0 x3_1 t107 _ ?side1 ?side2 A5.out).mono ?_); (case side1 => repeat (first | exact (Kd.ie_ HR0.out HB.out) | (with_reducible refine Kd.yb_ ?_ _) | (with_reducible refine Kd.zb_ ?_ _) | (with_reducible refine Kd.jc_ ?_))); (case side2 => exact HC0.out); rintro e w7 ⟨rfl, hb⟩; refine ⟨_, rfl, ?_⟩; have n0_ := ba_.mk (gb_ (by repeat (first | (with_reducible first | exact HB.out | apply fa_ | apply ca_ | apply ga_) | exact HB.out)) hb); clear HB; have HB := n0_; clear n0_; (try clear hb); (try clear hb2); (try clear hk); (try clear hi)))
      go_roundg k1
      case measure => have := HK1.out; omega
      case rel => exact ⟨(wrap64 (x3_1 + 1)), (by first | rfl | (simp; done) | (simp [*]; done)), H', ⟨by have := HK1.out; omega⟩, ⟨by repeat (first | (with_reducible first | exact HB.out | apply fa_ | apply ca_ | apply ga_) | exact HB.out)⟩⟩
     ·rw [if_neg c6] at H
      have c6b0 : (t107 == 0) = false := beq_eq_false_iff_ne.mpr c6
      have c6b1 : (t107 != 0) = true := bne_iff_ne.mpr c6
      obtain rfl := Option.some.inj H
      go_wp2_with (first | ((with_reducible refine ua_ (f := 52) rfl ?_); refine hc_ (some 13) rfl rfl Try.func52 (by kernel_rfl) rfl #[.slice A0 l0.length c0, .int .i64 x3_1] rfl (by (try simp only [List.map_toArray, List.map_cons, List.map_nil]); first | done | rfl | (simp only [List.length_drop, List.length_take]; rfl)) ?_; (with_reducible refine (ac_.calls k1 _ _ l0 x3_1 t107 _ ?side1 ?side2 A5.out).mono ?_); (case side1 => repeat (first | exact (Kd.ie_ HR0.out HB.out) | (with_reducible refine Kd.yb_ ?_ _) | (with_reducible refine Kd.zb_ ?_ _) | (with_reducible refine Kd.jc_ ?_))); (case side2 => exact HC0.out); rintro e w8 ⟨rfl, hb⟩; refine ⟨_, rfl, ?_⟩; have n0_ := ba_.mk (gb_ (by repeat (first | (with_reducible first | exact HB.out | apply fa_ | apply ca_ | apply ga_) | exact HB.out)) hb); clear HB; have HB := n0_; clear n0_; (try clear hb); (try clear hb2); (try clear hk); (try clear hi)))
      go_ret
      exact ⟨by first | rfl | (simp [bb_, cb_] <;> rfl) | (simp [*, bb_, cb_] <;> rfl), by repeat (first | (with_reducible first | exact HB.out | apply fa_ | apply ca_ | apply ga_) | exact HB.out)⟩
    ·rw [if_neg c4] at H
     have c4b0 : decide (x3_1 ≤ 6) = false := decide_eq_false c4
     clear c4
     obtain rfl := Option.some.inj H
     go_wp2
     go_ret
     exact ⟨by first | rfl | (simp [bb_, cb_] <;> rfl) | (simp [*, bb_, cb_] <;> rfl), by repeat (first | (with_reducible first | exact HB.out | apply fa_ | apply ca_ | apply ga_) | exact HB.out)⟩
 ·replace c3 := Bool.eq_false_iff.mpr c3
  subst c3
  have H1 : (some false) = some r := by rw [if_neg (show ¬ (false = true) by decide)] at H; exact H
  clear H
  have H := H1
  clear H1
  obtain rfl := Option.some.inj H
  go_enter Try.func33, Try.ntmps33
  go_wp2_with (first | ((with_reducible refine ua_ (f := 51) rfl ?_); refine hc_ (some 5) rfl rfl Try.func51 (by kernel_rfl) rfl #[.slice A0 l0.length c0, .int .i64 0] rfl (by (try simp only [List.map_toArray, List.map_cons, List.map_nil]); first | done | rfl | (simp only [List.length_drop, List.length_take]; rfl)) ?_; (with_reducible refine (sa_.calls k _ _ l0 0 false _ ?side1 ?side2 A2.out).mono ?_); (case side1 => repeat (first | exact HR0.out | (with_reducible refine Kd.yb_ ?_ _) | (with_reducible refine Kd.zb_ ?_ _) | (with_reducible refine Kd.jc_ ?_))); (case side2 => exact HC0.out); rintro e w' ⟨rfl, ⟨nd, rfl⟩⟩; refine ⟨_, rfl, ?_⟩))
  go_ret
  exact ⟨by first | rfl | (simp [bb_, cb_] <;> rfl) | (simp [*, bb_, cb_] <;> rfl), by repeat (first | (with_reducible first | exact HB.out | apply fa_ | apply ca_ | apply ga_) | exact HB.out)⟩
def bd_.f (a0 : Int) : Option (Int) := if (wrap64 (a0 * 2)) ≥ 32 then (some (Go.bits .xor .i64 (wrap64 (a0 * 2)) 37)) else (some (wrap64 (a0 * 2)))
set_option maxHeartbeats 8000000 in
set_option maxRecDepth 100000 in
theorem bd_.calls (a0 : Int) (r : Int) (w : World) (h : bd_.f a0 = some r) :
  Calls Try.prog 41 #[.int .i64 a0] w fun e w' => e = .returned (.int .i64 r) ∧ ra_ w w' := by
 have H : (if (wrap64 (a0 * 2)) ≥ 32 then (some (Go.bits .xor .i64 (wrap64 (a0 * 2)) 37)) else (some (wrap64 (a0 * 2)))) = some r := h
 clear h
 by_cases c2 : (wrap64 (a0 * 2)) ≥ 32
 ·rw [if_pos c2] at H
  have c2b0 : decide (32 ≤ (wrap64 (a0 * 2))) = true := decide_eq_true c2
  clear c2
  obtain rfl := Option.some.inj H
  go_enter Try.func41, Try.ntmps41
  go_wp2
  go_ret
  exact ⟨by first | rfl | (simp; done) | (simp [*]; done), by repeat (first | exact ra_.refl _ | apply ra_.step)⟩
 ·rw [if_neg c2] at H
  have c2b0 : decide (32 ≤ (wrap64 (a0 * 2))) = false := decide_eq_false c2
  clear c2
  obtain rfl := Option.some.inj H
  go_enter Try.func41, Try.ntmps41
  go_wp2
  go_ret
  exact ⟨by first | rfl | (simp; done) | (simp [*]; done), by repeat (first | exact ra_.refl _ | apply ra_.step)⟩
end Go.Proofs.Ytpkhgapifnjbeaa.Q
end
section
namespace Go.Proofs.Ytpkhgapifnjbeaa.Q
open Go.RowKit Go.Proofs.Ytpkhgapifnjbeaa.G Go.Proofs.YtpkhgapifnjbeaaW.PrintWords Go.Proofs.YtpkhgapifnjbeaaW.PrintLast Go.Proofs.YtpkhgapifnjbeaaW.PrintMore
attribute [local go_sem] dd_ fd_ rd_ sd_ uc_ vc_ ed_ gd_
set_option linter.unusedVariables false
set_option linter.unusedSimpArgs false
end Go.Proofs.Ytpkhgapifnjbeaa.Q
end
section
namespace Go.Proofs.Ytpkhgapifnjbeaa.G
set_option linter.unusedVariables false
set_option linter.unusedSimpArgs false
open Go.RowKit Go.Proofs.YtpkhgapifnjbeaaW.PrintWords Go.Proofs.YtpkhgapifnjbeaaW.PrintLast Go.Proofs.YtpkhgapifnjbeaaW.PrintMore Go.Proofs.Ytpkhgapifnjbeaa.Rs Go.Proofs.Ytpkhgapifnjbeaa.Q
def isWord (l : List Int) (low : Int) : Bool := decide (7 ≤ l.length ∧ l.length ≤ 15) && !(l.any (th_ low))
theorem zd_ (l : List Int) (i : Nat) : rd l (i : Int) = l.getD i 0 := by simp [rd]
theorem sym_l0 (l : List Int) (low : Int) (hl : l.length ≤ 15) : ∀ (d i k : Nat), i + d = l.length → d < k → (l.take i).any (th_ low) = false → sa_.l0 k l low (i : Int) = some (!(l.any (th_ low))) := by
 intro d
 induction d with
 | zero =>
  intro i k hi hk hz
  obtain ⟨k, rfl⟩ : ∃ m, k = m + 1 := ⟨k - 1, by omega⟩
  simp only [sa_.l0]
  rw [if_neg (by omega)]
  rw [List.take_of_length_le (by omega)] at hz
  rw [hz]; rfl
 | succ d ih =>
  intro i k hi hk hz
  obtain ⟨k, rfl⟩ : ∃ m, k = m + 1 := ⟨k - 1, by omega⟩
  simp only [sa_.l0]
  rw [if_pos (by omega), if_pos (by omega)]
  have hs := qv_ (th_ low) l (i : Int) (by omega) (by omega)
  rw [show ((i : Int) + 1).toNat = i + 1 from by omega, show (i : Int).toNat = i from by omega, hz, Bool.false_or] at hs
  by_cases h1 : rd l (i : Int) < low
  ·rw [if_pos h1, ur_ (th_ low) l (i : Int) (by omega) (by omega) (by simp [th_, h1])]; rfl
  ·rw [if_neg h1]
   by_cases h2 : rd l (i : Int) > 31
   ·rw [if_pos h2, ur_ (th_ low) l (i : Int) (by omega) (by omega) (by simp [th_]; omega)]; rfl
   ·rw [if_neg h2, show wrap64 ((i : Int) + 1) = ((i + 1 : Nat) : Int) from by unfold wrap64; omega]
    refine ih (i + 1) k (by omega) (by omega) ?_
    rw [hs]
    simp [th_]
    omega
theorem au_ (l : List Int) (low : Int) (k : Nat) (hk : 18 ≤ k) : sa_.f k l low = some (isWord l low) := by
 obtain ⟨k, rfl⟩ : ∃ m, k = m + 1 := ⟨k - 1, by omega⟩
 unfold sa_.f isWord
 by_cases h1 : (l.length : Int) < 7
 ·rw [if_pos h1]
  simp only [sa_.j0]
  rw [if_pos trivial, decide_eq_false (by omega)]; rfl
 ·rw [if_neg h1]
  by_cases h2 : (l.length : Int) > 15
  ·rw [decide_eq_true h2]
   simp only [sa_.j0]
   rw [if_pos trivial, decide_eq_false (by omega)]; rfl
  ·rw [decide_eq_false h2]
   simp only [sa_.j0]
   rw [if_neg (by decide), decide_eq_true (by omega), Bool.true_and]
   exact sym_l0 l low (by omega) l.length 0 k (by omega) (by omega) (by simp)
def hsum (l : List Int) (x : GF) : Nat → GF
 | 0 => 0
 | m + 1 => hsum l x m * x + vG (l.getD m 0)
theorem vd1_ (l : List Int) (x : GF) (m : Nat) : hsum l x m = gsum m (fun i => vG (l.getD i 0) * GF.pw x (m - 1 - i)) := by
 induction m with
 | zero => rfl
 | succ m ih =>
  simp only [hsum, gsum]
  rw [ih, GF.mul_comm, ← ci_, show m + 1 - 1 - m = 0 from by omega]
  rw [show GF.pw x 0 = 1 from rfl, GF.mul_one]
  congr 1
  refine vd_ fun i hi => ?_
  rw [show m + 1 - 1 - i = (m - 1 - i) + 1 from by omega]
  show x * (vG (l.getD i 0) * GF.pw x (m - 1 - i)) = vG (l.getD i 0) * (GF.pw x (m - 1 - i) * x)
  ac_rfl
theorem bz_ (l : List Int) (j : Nat) : hsum l (GF.ex j) l.length = psum l j l.length := by
 rw [vd1_]
 refine vd_ fun i hi => ?_
 rw [GF.uy_]
def ln_ (l : List Int) : Bool := l.all isEl
theorem sr_ {l : List Int} (h : ln_ l = true) (i : Nat) (hi : i < l.length) : isEl (l.getD i 0) = true := by
 have := List.all_eq_true.1 h (l.getD i 0) (by rw [List.getD_eq_getElem?_getD, List.getElem?_eq_getElem hi]; exact List.getElem_mem _)
 exact this
theorem te1_ (l : List Int) (j : Nat) (he : ln_ l = true) (hl : l.length ≤ 100) : ∀ (d i k : Nat), i + d = l.length → d < k → ac_.l0 k l (ofG (hsum l (GF.ex j) i)) (powI (j : Int)) (i : Int) = some (ofG (psum l j l.length)) := by
 intro d
 induction d with
 | zero =>
  intro i k hi hk
  obtain ⟨k, rfl⟩ : ∃ m, k = m + 1 := ⟨k - 1, by omega⟩
  simp only [ac_.l0]
  rw [if_neg (by omega)]
  obtain rfl : i = l.length := by omega
  rw [bz_]
 | succ d ih =>
  intro i k hi hk
  obtain ⟨k, rfl⟩ : ∃ m, k = m + 1 := ⟨k - 1, by omega⟩
  simp only [ac_.l0]
  rw [if_pos (by omega)]
  simp only [ls_.f, Option.bind_some]
  rw [if_pos (by omega)]
  have hp : powI (j : Int) = ofG (GF.ex j) := by
   unfold powI
   rw [show ((j : Int) % 31).toNat = j % 31 from by omega, ← GF.zs_]
  have hv : rd l (i : Int) = ofG (vG (l.getD i 0)) := by rw [zd_, co_ (sr_ he i (by omega))]
  rw [show wrap64 ((i : Int) + 1) = ((i + 1 : Nat) : Int) from by unfold wrap64; omega, hp, dl_, hv]
  rw [show Go.bits .xor .i64 (ofG (hsum l (GF.ex j) i * GF.ex j)) (ofG (vG (l.getD i 0))) = ofG (hsum l (GF.ex j) (i + 1)) from zj_ _ _, ← hp]
  exact ih (i + 1) k (by omega) (by omega)
theorem mr_ (l : List Int) (j : Nat) (he : ln_ l = true) (hl : l.length ≤ 100) (k : Nat) (hk : 102 ≤ k) : ac_.f k l (j : Int) = some (ofG (psum l j l.length)) := by
 unfold ac_.f
 simp only [gh_.f, Option.bind_some]
 exact te1_ l j he hl l.length 0 k (by omega) (by omega)
def bv_.f (l : List Int) (j : Int) : Option Int := if ln_ l = true ∧ l.length ≤ 100 ∧ 0 ≤ j then some (ofG (psum l j.toNat l.length)) else none
theorem bv_.calls (A0 : Option Addr) (c0 : Nat) (l0 : List Int) (a1 : Int) (r : Int) (w : World) (hr0 : Kd.C (Kd.int .i64) w A0 l0.length l0) (hc0 : l0.length ≤ c0) (h : bv_.f l0 a1 = some r) :
  Calls Try.prog 52 #[.slice A0 l0.length c0, .int .i64 a1] w fun e w' => e = .returned (.int .i64 r) ∧ Below w.heap.size w w' := by
 unfold bv_.f at h
 by_cases hc : ln_ l0 = true ∧ l0.length ≤ 100 ∧ 0 ≤ a1
 ·rw [if_pos hc] at h
  have := mr_ l0 a1.toNat hc.1 hc.2.1 102 (by omega)
  rw [show ((a1.toNat : Nat) : Int) = a1 from by omega, h] at this
  exact ac_.calls 102 A0 c0 l0 a1 r w hr0 hc0 this
 ·rw [if_neg hc] at h
  cases h
def ve_ (l : List Int) : Bool := isWord l 0 && (List.range 6).all fun j => decide (psum l (j + 1) l.length = 0)
theorem eq_ {l : List Int} (h : isWord l 0 = true) : ln_ l = true ∧ 7 ≤ l.length ∧ l.length ≤ 15 := by
 unfold isWord at h
 simp only [Bool.and_eq_true, decide_eq_true_eq, Bool.not_eq_true', List.any_eq_false] at h
 refine ⟨List.all_eq_true.2 fun x hx => ?_, h.1.1, h.1.2⟩
 have := h.2 x hx
 simp [th_] at this
 simp [isEl]
 omega
theorem kd1_ (l : List Int) (he : ln_ l = true) (hl : l.length ≤ 100) (hw : isWord l 0 = true) : ∀ (d j k : Nat), j + d = 6 → 102 + d < k → (∀ j', j' < j → psum l (j' + 1) l.length = 0) → dc_.l0 k l ((j : Int) + 1) = some (ve_ l) := by
 intro d
 induction d with
 | zero =>
  intro j k hj hk hz
  obtain ⟨k, rfl⟩ : ∃ m, k = m + 1 := ⟨k - 1, by omega⟩
  simp only [dc_.l0]
  rw [if_neg (by omega)]
  have : ((List.range 6).all fun j => decide (psum l (j + 1) l.length = 0)) = true := List.all_eq_true.2 fun j' hj' => by simpa using hz j' (by have := List.mem_range.1 hj'; omega)
  unfold ve_
  rw [hw, this]; rfl
 | succ d ih =>
  intro j k hj hk hz
  obtain ⟨k, rfl⟩ : ∃ m, k = m + 1 := ⟨k - 1, by omega⟩
  simp only [dc_.l0]
  have := mr_ l (j + 1) he hl k (by omega)
  rw [show ((j + 1 : Nat) : Int) = (j : Int) + 1 from by omega] at this
  rw [if_pos (by omega), this]
  simp only [Option.bind_some]
  by_cases h0 : psum l (j + 1) l.length = 0
  ·rw [if_pos (by rw [h0]; rfl), show wrap64 ((j : Int) + 1 + 1) = ((j + 1 : Nat) : Int) + 1 from by unfold wrap64; omega]
   refine ih (j + 1) k (by omega) (by omega) fun j' hj' => ?_
   rcases Nat.lt_or_ge j' j with h | h
   ·exact hz j' h
   ·rw [show j' = j from by omega]; exact h0
  ·rw [if_neg (fun e => h0 (ui_.1 e))]
   have : ((List.range 6).all fun j => decide (psum l (j + 1) l.length = 0)) = false := List.all_eq_false.2 ⟨j, List.mem_range.2 (by omega), by simpa using h0⟩
   unfold ve_
   rw [this, Bool.and_false]
theorem tw_ (l : List Int) (k : Nat) (hk : 110 ≤ k) : dc_.f k l = some (ve_ l) := by
 unfold dc_.f
 rw [au_ l 0 k (by omega)]
 simp only [Option.bind_some]
 by_cases hw : isWord l 0 = true
 ·obtain ⟨h1, h2, h3⟩ := eq_ hw
  rw [if_pos hw]
  exact kd1_ l h1 (by omega) hw 6 0 k (by omega) (by omega) (fun j' hj' => by omega)
 ·rw [if_neg hw]
  unfold ve_
  rw [show isWord l 0 = false from by simpa using hw]; rfl
def jo_.f (l : List Int) : Option Bool := some (ve_ l)
theorem jo_.calls (A0 : Option Addr) (c0 : Nat) (l0 : List Int) (r : Bool) (w : World) (hr0 : Kd.C (Kd.int .i64) w A0 l0.length l0) (hc0 : l0.length ≤ c0) (h : jo_.f l0 = some r) :
  Calls Try.prog 33 #[.slice A0 l0.length c0] w fun e w' => e = .returned (.bool r) ∧ Below w.heap.size w w' :=
 dc_.calls 110 A0 c0 l0 r w hr0 hc0 ((tw_ l0 110 (by omega)).trans h)
def li_.f (l : List Int) (a : Int) : Option Bool := some (isWord l a)
theorem li_.calls (A0 : Option Addr) (c0 : Nat) (l0 : List Int) (a1 : Int) (r : Bool) (w : World) (hr0 : Kd.C (Kd.int .i64) w A0 l0.length l0) (hc0 : l0.length ≤ c0) (h : li_.f l0 a1 = some r) :
  Calls Try.prog 51 #[.slice A0 l0.length c0, .int .i64 a1] w fun e w' => e = .returned (.bool r) ∧ ra_ w w' :=
 sa_.calls 18 A0 c0 l0 a1 r w hr0 hc0 ((au_ l0 a1 18 (by omega)).trans h)
end Go.Proofs.Ytpkhgapifnjbeaa.G
end
section
namespace Go.Proofs.Ytpkhgapifnjbeaa.G
set_option linter.unusedVariables false
set_option linter.unusedSimpArgs false
open Go.RowKit Go.Proofs.YtpkhgapifnjbeaaW.PrintWords Go.Proofs.YtpkhgapifnjbeaaW.PrintLast Go.Proofs.YtpkhgapifnjbeaaW.PrintMore Go.Proofs.Ytpkhgapifnjbeaa.Rs
theorem mz_ {W : World} {base e1 e2 C : Nat} {ok : Nat → Prop} {v : Value} {xs : List (List Int)} (H : Kd.S (Kd.slice e2 (Kd.int .i64)) e1 W base ok v xs) (hR : 0 < xs.length) (hC : ∀ x, x ∈ xs → x.length = C) (hC0 : 0 < C) :
  ∃ g cap h cc, v = .slice (some ⟨g, 0, none⟩) xs.length cap ∧ Mat W base g xs.length C h cc (fun i k => (xs.getD i []).getD k 0) ∧ ok g ∧ ∀ i, i < xs.length → ok (h i) := by
 have H0 := H
 obtain ⟨f, h0, inner, ho, hr⟩ := H
 have hsz : ((Kd.slice e2 (Kd.int .i64)).tag f).sz = 1 := rfl
 rw [List.length_zipIdx, hsz] at ho
 rcases ho with ⟨hlen, ⟨_, hn⟩ | ⟨g, cap, cur, rfl, hb, hg, h1, h2, h3, h4⟩⟩
 ·omega
 have hrow : ∀ i, i < xs.length → ∃ p : Nat × Nat, inner[i]? = some (.slice (some ⟨p.1, 0, none⟩) C p.2) ∧ Kd.R (Kd.int .i64) e2 W base (fun k => (ok k ∧ some k ≠ some g) ∧ f k = i) (.slice (some ⟨p.1, 0, none⟩) C p.2) (xs.getD i []) ∧ base ≤ p.1 := by
  intro i hi
  have hx : xs[i]? = some (xs.getD i []) := by rw [List.getD_eq_getElem?_getD, List.getElem?_eq_getElem hi]; rfl
  have hm := hr.2 i (xs.getD i [], i) (Kd.oa1_ hx)
  rw [hsz, Nat.mul_one] at hm
  obtain ⟨vi, hcs, hR1⟩ := hm
  have hxl : (xs.getD i []).length = C := hC _ (List.mem_iff_getElem?.2 ⟨i, hx⟩)
  obtain ⟨hg1, c1, he, hb1, _⟩ := Kd.yg_ hR1 (by rw [hxl]; exact hC0)
  rw [hxl] at he
  subst he
  refine ⟨(hg1, c1), ?_, hR1, hb1⟩
  have : (List.take 1 (List.drop i inner))[0]? = some (.slice (some ⟨hg1, 0, none⟩) C c1) := by rw [hcs]; rfl
  rw [List.getElem?_take] at this
  simpa using this
 obtain ⟨F, hF⟩ := fw_ hrow
 have hcell : ∀ j, W.cell? ⟨g, j, none⟩ = cur[j]? := fun j => cell_of_row W g j cur e1 (0, 0) hg
 refine ⟨g, cap, fun i => (F i).1, fun i => (F i).2, rfl, ⟨fun i hi => ?_, fun i hi => frozen_of_row W g i cur e1 hg, fun i k hi hk => ?_, fun i k hi hk => ?_, fun i hi => ?_, fun i j hi hj e => ?_, fun i hi => (hF i hi).2.2, hb⟩, h0 g rfl, fun i hi => ((hF i hi).2.1.1 _ rfl).1.1⟩
 ·rw [hcell, ← (hF i hi).1, ← h4]
  rw [List.getElem?_take, if_pos (by omega), Array.getElem?_toList]
 ·have := (Kd.of_ 0 (hF i hi).2.1 (k : Int) (by omega) (by omega)).1
  rw [Int.toNat_natCast] at this
  rw [this]
  simp [rdOf, List.getD_eq_getElem?_getD]
 ·have := (Kd.of_ 0 (hF i hi).2.1 (k : Int) (by omega) (by omega)).2
  rwa [Int.toNat_natCast] at this
 ·have := (hF i hi).2.1.1 (F i).1 rfl
  intro e
  exact this.1.2 (by rw [e])
 ·have a := (hF i hi).2.1.1 (F i).1 rfl
  have b := (hF j hj).2.1.1 (F j).1 rfl
  have e' : (F i).1 = (F j).1 := e
  rw [e'] at a
  exact a.2.symm.trans b.2
structure Tl (W : World) (base g R C : Nat) (h cc : Nat → Nat) (M : Nat → Nat → Int) (T go co L : Nat) (x : List Int) : Prop where
 mat : Mat W base g R C h cc M
 row : Kd.R (Kd.int .i64) T W base (fun k => k = go) (.slice (some ⟨go, 0, none⟩) L co) x
 ng : g ≠ go
 nh : ∀ i, i < R → h i ≠ go
 el : ∀ i k, i < R → k < C → isEl (M i k) = true
section
variable {W W1 : World} {base g R C T go co L : Nat} {h cc : Nat → Nat} {M : Nat → Nat → Int} {x : List Int}
theorem Tl.drewN (H : Tl W base g R C h cc M T go co L x) (n : Nat) : Tl (W.drewN n) base g R C h cc M T go co L x := ⟨H.mat.drewN n, Kd.ka_ H.row n, H.ng, H.nh, H.el⟩
theorem Tl.drew (H : Tl W base g R C h cc M T go co L x) : Tl W.drew base g R C h cc M T go co L x := ⟨H.mat.drew, Kd.ma_ H.row, H.ng, H.nh, H.el⟩
theorem Tl.below (H : Tl W base g R C h cc M T go co L x) (hb : Below W.heap.size W W1) : Tl W1 base g R C h cc M T go co L x := ⟨H.mat.below hb, Kd.cd_ H.row hb, H.ng, H.nh, H.el⟩
theorem Tl.congr {M' : Nat → Nat → Int} (H : Tl W base g R C h cc M T go co L x) (e : ∀ i k, i < R → k < C → M i k = M' i k) : Tl W base g R C h cc M' T go co L x :=
 ⟨H.mat.congr e, H.row, H.ng, H.nh, fun i k hi hk => by rw [← e i k hi hk]; exact H.el i k hi hk⟩
theorem Tl.set (H : Tl W base g R C h cc M T go co L x) (i k : Nat) (hi : i < R) (hk : k < C) (y : Int) (hy : isEl y = true) : Tl (W.setCell ⟨h i, k, none⟩ (.int .i64 y)) base g R C h cc (updM M i k y) T go co L x :=
 ⟨H.mat.set i k hi hk y, Kd.em_ H.row (fun k hk e => H.nh i hi (e.symm.trans hk)) _, H.ng, H.nh, fun i' k' hi' hk' => by unfold updM; split; exact hy; exact H.el i' k' hi' hk'⟩
theorem Tl.swap (H : Tl W base g R C h cc M T go co L x) (a b : Nat) (ha : a < R) (hb : b < R) :
  Tl ((W.setCell ⟨g, a, none⟩ (.slice (some ⟨h b, 0, none⟩) C (cc b))).setCell ⟨g, b, none⟩ (.slice (some ⟨h a, 0, none⟩) C (cc a))) base g R C (qh_ h a b) (qh_ cc a b) (qh_ M a b) T go co L x :=
 ⟨H.mat.swap a b ha hb, Kd.em_ (Kd.em_ H.row (fun k hk e => H.ng (e.symm.trans hk)) _) (fun k hk e => H.ng (e.symm.trans hk)) _, H.ng, fun i hi => xo_ (p := fun y => y ≠ go) H.nh ha hb hi, fun i k hi hk => xo_ (p := fun f : Nat → Int => isEl (f k) = true) (fun i hi => H.el i k hi hk) ha hb hi⟩
theorem Tl.put (H : Tl W base g R C h cc M T go co L x) (p y : Int) : Tl (W.setCell ⟨go, p.toNat, none⟩ (.int .i64 y)) base g R C h cc M T go co L (x.set p.toNat y) := by
 have hne : ∀ (q : Addr), q.block ≠ go → (W.setCell ⟨go, p.toNat, none⟩ (.int .i64 y)).cell? q = W.cell? q := fun q hq => World.cell?_setCell_other _ _ _ _ (fun e => hq (by rw [← e]))
 exact ⟨⟨fun i hi => (hne _ H.ng).trans (H.mat.out i hi), fun i hi => by rw [World.frozen?_setCell]; exact H.mat.fro i hi, fun i k hi hk => (hne _ (H.nh i hi)).trans (H.mat.cel i k hi hk), fun i k hi hk => by rw [World.frozen?_setCell]; exact H.mat.frc i k hi hk, H.mat.ne, H.mat.inj, H.mat.lo, H.mat.lg⟩, Kd.bm_ H.row p y, H.ng, H.nh, H.el⟩
end
theorem na1_ {a : Int} (h : isEl a = true) : xorI a 0 = a := by
 have := ml_ h (show isEl 0 = true from rfl)
 rw [this, show toG 0 = 0 from rfl, GF.add_zero, vh_ ((xd_ a).1 h).1 ((xd_ a).1 h).2]
theorem oz_ (a b : Int) : mulI a b = mulI b a := by
 unfold mulI
 rw [Bool.and_comm, GF.mul_comm]
theorem gt_ {a b : Int} (ha : isEl a = true) (hb : isEl b = true) : isEl (xorI a b) = true := by
 rw [ml_ ha hb]; exact jg_ _
theorem xs_ (M : Nat → Nat → Int) (c i R C : Nat) (hi : i ≠ c) (hel : ∀ k, k < C → isEl (M i k) = true) : ∀ i' k, k < C → zh_ M c i C i' k = qi_ M c (i + 1) i' k := by
 by_cases hz : M i c = 0
 ·intro i' k hk
  rw [lk_ M c i (.inr hz)]
  unfold zh_
  by_cases h1 : i' = i
  ·subst h1
   rw [if_pos rfl, if_pos hk, hz, ek_, na1_ (hel k hk), al_]
  ·rw [if_neg h1]
 ·exact jp_ M c i C hi hz
def tailTo (places : List Int) (M : Nat → Nat → Int) : Nat → List Int → List Int
 | 0, out => out
 | i + 1, out => (tailTo places M i out).set (rd places (i : Int)).toNat (M i places.length)
theorem ij_ (places : List Int) (M : Nat → Nat → Int) (n : Nat) (out : List Int) : (tailTo places M n out).length = out.length := by
 induction n with
 | zero => rfl
 | succ n ih => simp only [tailTo, List.length_set, ih]
def aq_ (out : List Int) (rows : List (List Int)) (places : List Int) : Bool :=
 decide (rows.length = 6 ∧ places.length ≤ 6 ∧ 1 ≤ out.length ∧ out.length ≤ 15) && places.all (fun p => decide (0 ≤ p) && decide (p < out.length)) && rows.all (fun r => decide (r.length = places.length + 1) && r.all isEl)
def cj_.f (out : List Int) (rows : List (List Int)) (places : List Int) : Option (List Int × Bool) :=
 if aq_ out rows places = true then
  (match gjI 6 (kg_ rows) places.length with
  | none => some ([], false)
  | some M => some (tailTo places M places.length out, ve_ (tailTo places M places.length out)))
 else none
theorem cj_.ok {out : List Int} {rows : List (List Int)} {places : List Int} {r : List Int × Bool} (h : cj_.f out rows places = some r) : aq_ out rows places = true := by
 unfold cj_.f at h
 by_cases hc : aq_ out rows places = true
 ·exact hc
 ·rw [if_neg hc] at h; cases h
theorem yx_ {out : List Int} {rows : List (List Int)} {places : List Int} (h : aq_ out rows places = true) :
  rows.length = 6 ∧ places.length ≤ 6 ∧ 1 ≤ out.length ∧ out.length ≤ 15 ∧ (∀ i : Nat, i < places.length → 0 ≤ rd places (i : Int) ∧ rd places (i : Int) < out.length) ∧ (∀ x, x ∈ rows → x.length = places.length + 1) ∧ ∀ i k, i < rows.length → k < places.length + 1 → isEl (kg_ rows i k) = true := by
 unfold aq_ at h
 simp only [Bool.and_eq_true, decide_eq_true_eq, List.all_eq_true] at h
 obtain ⟨⟨⟨h1, h2, h3, h4⟩, h5⟩, h6⟩ := h
 refine ⟨h1, h2, h3, h4, fun i hi => ?_, fun x hx => (h6 x hx).1, fun i k hi hk => ?_⟩
 ·rw [zd_, List.getD_eq_getElem?_getD, List.getElem?_eq_getElem hi]
  exact h5 _ (List.getElem_mem hi)
 ·unfold kg_
  have hm : rows.getD i [] ∈ rows := by rw [List.getD_eq_getElem?_getD, List.getElem?_eq_getElem hi]; exact List.getElem_mem hi
  have := h6 _ hm
  rw [List.getD_eq_getElem?_getD (l := rows.getD i []), List.getElem?_eq_getElem (by rw [this.1]; exact hk)]
  exact this.2 _ (List.getElem_mem _)
theorem cj_.none {out : List Int} {rows : List (List Int)} {places : List Int} {t : List Int} {u : Bool} (h : cj_.f out rows places = some (t, u)) (hg : gjI 6 (kg_ rows) places.length = none) : t = [] ∧ u = false := by
 unfold cj_.f at h
 rw [if_pos (cj_.ok h), hg] at h
 simp only [Option.some.injEq, Prod.mk.injEq] at h
 exact ⟨h.1.symm, h.2.symm⟩
theorem cj_.some {out : List Int} {rows : List (List Int)} {places : List Int} {t : List Int} {u : Bool} {M : Nat → Nat → Int} (h : cj_.f out rows places = some (t, u)) (hg : gjI 6 (kg_ rows) places.length = some M) : t = tailTo places M places.length out ∧ u = ve_ (tailTo places M places.length out) := by
 unfold cj_.f at h
 rw [if_pos (cj_.ok h), hg] at h
 simp only [Option.some.injEq, Prod.mk.injEq] at h
 exact ⟨h.1.symm, h.2.symm⟩
theorem dt_ {R n : Nat} {M M' : Nat → Nat → Int} {c : Nat} (h : gjI R M c = some M') (hp : pivot M' c R = R) (hc : c < n) : gjI R M n = none := by
 have := cw_ h hp (n - (c + 1))
 rwa [show c + 1 + (n - (c + 1)) = n from by omega] at this
theorem xa1_ (l : List Int) (n : Nat) (hn : n = l.length) : l.take (min l.length (List.replicate n (0 : Int)).length) ++ (List.replicate n (0 : Int)).drop (min l.length (List.replicate n (0 : Int)).length) = l := by
 subst hn
 simp
theorem fp_ {l t : List Int} (h : si_.f l = some t) : t = l ∧ l.length < 17592186044416 := by
 unfold si_.f at h
 by_cases hl : l.length < 17592186044416
 ·rw [if_pos hl] at h; exact ⟨(Option.some.inj h).symm, hl⟩
 ·rw [if_neg hl] at h; cases h
end Go.Proofs.Ytpkhgapifnjbeaa.G
end
section
namespace Go.Proofs.Ytpkhgapifnjbeaa.F
open Go.RowKit Go.Proofs.Ytpkhgapifnjbeaa.G Go.Proofs.YtpkhgapifnjbeaaW.PrintWords Go.Proofs.YtpkhgapifnjbeaaW.PrintLast Go.Proofs.YtpkhgapifnjbeaaW.PrintMore
attribute [local go_sem] dd_ fd_ rd_ sd_ uc_ vc_ ed_ gd_
set_option linter.unusedVariables false
set_option linter.unusedSimpArgs false
def errW : Option Int → Value
 | none => .nilIface
 | some c => .iface 0 (.int .i64 c)
theorem bb_ : errW none = .nilIface := rfl
theorem cb_ (c : Int) : errW (some c) = .iface 0 (.int .i64 c) := rfl
theorem bo_ : (Try.prog.info? 57).map (fun i => (i.zero, i.size, i.bytes)) = some (some (.int .i64 0), 1, 8) := by kernel_rfl
theorem dz_ : (Try.prog.info? 69).map (fun i => (i.zero, i.size, i.bytes)) = some (some (.slice none 0 0), 1, 24) := by kernel_rfl
def re_ (xs : List (List Int)) (i : Int) : (List Int) := xs.getD i.toNat ([] : List Int)
theorem yk_ {w : World} {A : Option Addr} {n : Nat} {xs : List (List Int)} (h : Kd.C (Kd.slice 3 (Kd.int .i64)) w A n xs) (i : Int) (h0 : 0 ≤ i) (h1 : i < n) : ∃ ad A0 c0, A = some ad ∧ w.cell? (ad.add i.toNat) = some (.slice A0 (re_ xs i).length c0) ∧ (re_ xs i).length ≤ c0 ∧ (Kd.int .i64).C w A0 (re_ xs i).length (re_ xs i) := by
 obtain ⟨ad, c, e, _, hK, hc0⟩ := Kd.ai_ h ([] : List Int) i h0 h1
 have hc : ∀ j u, c[j]? = some u → w.cell? (ad.add (i.toNat * 1 + j)) = some u := hc0
 obtain ⟨A0, c0, rfl, l0, g0⟩ := hK
 exact ⟨ad, A0, c0, e, by have hq := hc 0 _ rfl; rwa [Nat.mul_one, Nat.add_zero] at hq, l0, g0⟩
def bn_ (xs : List (List Int)) (i : Int) : (List Int) := xs.getD i.toNat ([] : List Int)
theorem at_L2 {w : World} {A : Option Addr} {n : Nat} {xs : List (List Int)} (h : Kd.C (Kd.slice 58 (Kd.int .i64)) w A n xs) (i : Int) (h0 : 0 ≤ i) (h1 : i < n) : ∃ ad A0 c0, A = some ad ∧ w.cell? (ad.add i.toNat) = some (.slice A0 (bn_ xs i).length c0) ∧ (bn_ xs i).length ≤ c0 ∧ (Kd.int .i64).C w A0 (bn_ xs i).length (bn_ xs i) := by
 obtain ⟨ad, c, e, _, hK, hc0⟩ := Kd.ai_ h ([] : List Int) i h0 h1
 have hc : ∀ j u, c[j]? = some u → w.cell? (ad.add (i.toNat * 1 + j)) = some u := hc0
 obtain ⟨A0, c0, rfl, l0, g0⟩ := hK
 exact ⟨ad, A0, c0, e, by have hq := hc 0 _ rfl; rwa [Nat.mul_one, Nat.add_zero] at hq, l0, g0⟩
def hj_ (xs : List (List Int)) (i : Int) : (List Int) := xs.getD i.toNat ([] : List Int)
theorem ta1_ {w : World} {A : Option Addr} {n : Nat} {xs : List (List Int)} (h : Kd.C (Kd.slice 57 (Kd.int .i64)) w A n xs) (i : Int) (h0 : 0 ≤ i) (h1 : i < n) : ∃ ad A0 c0, A = some ad ∧ w.cell? (ad.add i.toNat) = some (.slice A0 (hj_ xs i).length c0) ∧ (hj_ xs i).length ≤ c0 ∧ (Kd.int .i64).C w A0 (hj_ xs i).length (hj_ xs i) := by
 obtain ⟨ad, c, e, _, hK, hc0⟩ := Kd.ai_ h ([] : List Int) i h0 h1
 have hc : ∀ j u, c[j]? = some u → w.cell? (ad.add (i.toNat * 1 + j)) = some u := hc0
 obtain ⟨A0, c0, rfl, l0, g0⟩ := hK
 exact ⟨ad, A0, c0, e, by have hq := hc 0 _ rfl; rwa [Nat.mul_one, Nat.add_zero] at hq, l0, g0⟩
def qk_ (xs : List (List (List Int))) (i : Int) : (List (List Int)) := xs.getD i.toNat ([] : List (List Int))
theorem id1_ {w : World} {A : Option Addr} {n : Nat} {xs : List (List (List Int))} (h : Kd.C (Kd.slice 69 (Kd.slice 57 (Kd.int .i64))) w A n xs) (i : Int) (h0 : 0 ≤ i) (h1 : i < n) : ∃ ad A0 c0, A = some ad ∧ w.cell? (ad.add i.toNat) = some (.slice A0 (qk_ xs i).length c0) ∧ (qk_ xs i).length ≤ c0 ∧ (Kd.slice 57 (Kd.int .i64)).C w A0 (qk_ xs i).length (qk_ xs i) := by
 obtain ⟨ad, c, e, _, hK, hc0⟩ := Kd.ai_ h ([] : List (List Int)) i h0 h1
 have hc : ∀ j u, c[j]? = some u → w.cell? (ad.add (i.toNat * 1 + j)) = some u := hc0
 obtain ⟨A0, c0, rfl, l0, g0⟩ := hK
 exact ⟨ad, A0, c0, e, by have hq := hc 0 _ rfl; rwa [Nat.mul_one, Nat.add_zero] at hq, l0, g0⟩
end Go.Proofs.Ytpkhgapifnjbeaa.F
end
section
namespace Go.Proofs.Ytpkhgapifnjbeaa.F
open Go.RowKit Go.Proofs.Ytpkhgapifnjbeaa.G Go.Proofs.YtpkhgapifnjbeaaW.PrintWords Go.Proofs.YtpkhgapifnjbeaaW.PrintLast Go.Proofs.YtpkhgapifnjbeaaW.PrintMore
attribute [local go_sem] dd_ fd_ rd_ sd_ uc_ vc_ ed_ gd_
set_option linter.unusedVariables false
set_option linter.unusedSimpArgs false
def bd_.f (a0 : Int) : Option (Int) := if (wrap64 (a0 * 2)) ≥ 32 then (some (Go.bits .xor .i64 (wrap64 (a0 * 2)) 37)) else (some (wrap64 (a0 * 2)))
set_option maxHeartbeats 8000000 in
set_option maxRecDepth 100000 in
theorem bd_.calls (a0 : Int) (r : Int) (w : World) (h : bd_.f a0 = some r) :
  Calls Try.prog 41 #[.int .i64 a0] w fun e w' => e = .returned (.int .i64 r) ∧ ra_ w w' := by
 have H : (if (wrap64 (a0 * 2)) ≥ 32 then (some (Go.bits .xor .i64 (wrap64 (a0 * 2)) 37)) else (some (wrap64 (a0 * 2)))) = some r := h
 clear h
 by_cases c2 : (wrap64 (a0 * 2)) ≥ 32
 ·rw [if_pos c2] at H
  have c2b0 : decide (32 ≤ (wrap64 (a0 * 2))) = true := decide_eq_true c2
  clear c2
  obtain rfl := Option.some.inj H
  go_enter Try.func41, Try.ntmps41
  go_wp2
  go_ret
  exact ⟨by first | rfl | (simp; done) | (simp [*]; done), by repeat (first | exact ra_.refl _ | apply ra_.step)⟩
 ·rw [if_neg c2] at H
  have c2b0 : decide (32 ≤ (wrap64 (a0 * 2))) = false := decide_eq_false c2
  clear c2
  obtain rfl := Option.some.inj H
  go_enter Try.func41, Try.ntmps41
  go_wp2
  go_ret
  exact ⟨by first | rfl | (simp; done) | (simp [*]; done), by repeat (first | exact ra_.refl _ | apply ra_.step)⟩
def kd_.f (a0 : Int) : Option (Bool) := if a0 ≥ 0 then (some (decide (a0 < 32))) else (some false)
set_option maxHeartbeats 8000000 in
set_option maxRecDepth 100000 in
theorem kd_.calls (a0 : Int) (r : Bool) (w : World) (h : kd_.f a0 = some r) :
  Calls Try.prog 38 #[.int .i64 a0] w fun e w' => e = .returned (.bool r) ∧ ra_ w w' := by
 have H : (if a0 ≥ 0 then (some (decide (a0 < 32))) else (some false)) = some r := h
 clear h
 by_cases c2 : a0 ≥ 0
 ·rw [if_pos c2] at H
  have c2b0 : decide (0 ≤ a0) = true := decide_eq_true c2
  clear c2
  obtain rfl := Option.some.inj H
  go_enter Try.func38, Try.ntmps38
  go_wp2
  go_ret
  exact ⟨by first | rfl | (simp; done) | (simp [*]; done), by repeat (first | exact ra_.refl _ | apply ra_.step)⟩
 ·rw [if_neg c2] at H
  have c2b0 : decide (0 ≤ a0) = false := decide_eq_false c2
  clear c2
  obtain rfl := Option.some.inj H
  go_enter Try.func38, Try.ntmps38
  go_wp2
  go_ret
  exact ⟨by first | rfl | (simp; done) | (simp [*]; done), by repeat (first | exact ra_.refl _ | apply ra_.step)⟩
def mb_.l0 : Nat → Int → Int → Int → Option (Int)
 | 0, _, _, _ => none
 | k + 1, x0, x3, x5 => if x5 < 31 then (if x3 = x0 then (some x5) else ((bd_.f x3).bind fun t101 => (mb_.l0 k x0 t101 (wrap64 (x5 + 1))))) else (some 0)
def mb_.f (k : Nat) (a0 : Int) : Option (Int) := mb_.l0 k a0 1 0
theorem mb_.xc_ : ∀ k, (∀ y0 y1 y2, LeO (mb_.l0 k y0 y1 y2) (mb_.l0 (k + 1) y0 y1 y2))
 | 0 => fun _ _ _ r h => by simp [mb_.l0] at h
 | k + 1 => by
  have ih0 := mb_.xc_ k
  ·intro y0 y1 y2
   unfold mb_.l0
   repeat' first
   | (with_reducible exact ih0 _ _ _)
   | (with_reducible exact LeO.refl _)
   | (with_reducible exact LeO.none _)
   | (with_reducible refine LeO.ite ?_ ?_)
   | (with_reducible refine LeO.bind ?_ (fun _ => ?_))
   | exact ih0 _ _ _
   | exact LeO.none _
   | refine LeO.ite ?_ ?_
   | refine LeO.bind ?_ (fun _ => ?_)
theorem mb_.mono : ∀ a0 k, LeO (mb_.f k a0) (mb_.f (k + 1) a0) := by
 intro a0 k
 have ih0 := mb_.xc_ k
 unfold mb_.f
 repeat' first
   | (with_reducible exact ih0 _ _ _)
   | (with_reducible exact LeO.refl _)
   | (with_reducible exact LeO.none _)
   | (with_reducible refine LeO.ite ?_ ?_)
   | (with_reducible refine LeO.bind ?_ (fun _ => ?_))
   | exact ih0 _ _ _
   | exact LeO.none _
   | refine LeO.ite ?_ ?_
   | refine LeO.bind ?_ (fun _ => ?_)
set_option maxHeartbeats 8000000 in
set_option maxRecDepth 100000 in
theorem mb_.calls (k : Nat) (a0 : Int) (r : Int) (w : World) (h : mb_.f k a0 = some r) :
  Calls Try.prog 39 #[.int .i64 a0] w fun e w' => e = .returned (.int .i64 r) ∧ ra_ w w' := by
 have H : (mb_.l0 k a0 1 0) = some r := h
 clear h
 have H' := ba_.mk H
 clear H
 go_enter Try.func39, Try.ntmps39
 go_wp2
 go_loopg [3, 5] k (fun kq v3 v5 w' => ∃ (x3_1 : Int) (x5_1 : Int), v3 = .int .i64 x3_1 ∧ v5 = .int .i64 x5_1 ∧ ba_ (mb_.l0 kq a0 x3_1 x5_1 = some r) ∧ ba_ (kq ≤ k) ∧ ra_ w w')
 case atStart => exact ⟨(1), (0), (by first | rfl | (simp; done) | (simp [*]; done)), (by first | rfl | (simp; done) | (simp [*]; done)), H', ⟨Nat.le_refl _⟩, by repeat (first | exact ra_.refl _ | apply ra_.step)⟩
 case round =>
  clear H'
  obtain ⟨x3_1, x5_1, rfl, rfl, HA, HK1, ⟨m1, rfl⟩⟩ := hrel
  cases gk with
  | zero => exact absurd HA.out (by simp [mb_.l0])
  | succ k1 =>
   have H := HA.out
   clear HA
   simp only [mb_.l0] at H
   by_cases c2 : x5_1 < 31
   ·rw [if_pos c2] at H
    have c2b0 : decide (x5_1 < 31) = true := decide_eq_true c2
    clear c2
    by_cases c3 : x3_1 = a0
    ·rw [if_pos c3] at H
     have c3b0 : (x3_1 == a0) = true := beq_iff_eq.mpr c3
     have c3b1 : (x3_1 != a0) = false := bne_eq_false_iff_eq.mpr c3
     clear c3
     obtain rfl := Option.some.inj H
     go_wp2
     go_ret
     exact ⟨by first | rfl | (simp; done) | (simp [*]; done), by repeat (first | exact ra_.refl _ | apply ra_.step)⟩
    ·rw [if_neg c3] at H
     have c3b0 : (x3_1 == a0) = false := beq_eq_false_iff_ne.mpr c3
     have c3b1 : (x3_1 != a0) = true := bne_iff_ne.mpr c3
     replace H := Option.bind_eq_some_iff.mp H
     obtain ⟨t101, A40, H⟩ := H
     replace H : (mb_.l0 k1 a0 t101 (wrap64 (x5_1 + 1))) = some r := H
     have A4 := ba_.mk A40
     clear A40
     have H' := ba_.mk H
     clear H
     go_wp2_with (first | ((with_reducible refine ua_ (f := 41) rfl ?_); refine hc_ (some 13) rfl rfl Try.func41 (by kernel_rfl) rfl #[.int .i64 x3_1] rfl (by (try simp only [List.map_toArray, List.map_cons, List.map_nil]); first | done | rfl | (simp only [List.length_drop, List.length_take]; rfl)) ?_; (with_reducible refine (bd_.calls x3_1 t101 _ A4.out).mono ?_); rintro e w' ⟨rfl, ⟨nd, rfl⟩⟩; refine ⟨_, rfl, ?_⟩))
     go_roundg k1
     case measure => have := HK1.out; omega
     case rel => exact ⟨(t101), (wrap64 (x5_1 + 1)), (by first | rfl | (simp; done) | (simp [*]; done)), (by first | rfl | (simp; done) | (simp [*]; done)), H', ⟨by have := HK1.out; omega⟩, by repeat (first | exact ra_.refl _ | apply ra_.step)⟩
   ·rw [if_neg c2] at H
    have c2b0 : decide (x5_1 < 31) = false := decide_eq_false c2
    clear c2
    obtain rfl := Option.some.inj H
    go_wp2
    go_ret
    exact ⟨by first | rfl | (simp; done) | (simp [*]; done), by repeat (first | exact ra_.refl _ | apply ra_.step)⟩
mutual
def pc_.l0 : Nat → List Int → List Int → List (List Int) → List Int → Int → Option (List Int)
 | 0, _, _, _, _, _ => none
 | k + 1, x0, x1, x5, x17, x18 => if x18 < 6 then (if 0 ≤ x18 then (if x18 < (x17.length : Int) then (pc_.l1 k x0 x1 x5 x18 (rd x17 x18) ([] : List Int) x17 x18 x1 (x1.length : Int) 0) else (none)) else (none)) else ((ti_.f x5).bind fun bt117 => (if bt117.2 = true then ((si_.f x0).bind fun t121 => (pc_.l2 k x0 bt117.1 t121 x1 (x1.length : Int) 0)) else (some ([] : List Int))))
def pc_.l1 : Nat → List Int → List Int → List (List Int) → Int → Int → List Int → List Int → Int → List Int → Int → Int → Option (List Int)
 | 0, _, _, _, _, _, _, _, _, _, _, _ => none
 | k + 1, x0, x1, x5, x6, x7, x8, x17, x18, x22, x23, x24 => if x24 < x23 then (if 0 ≤ x24 then (if x24 < (x22.length : Int) then ((g_at.f x0 (rd x22 x24) (wrap64 (x6 + 1))).bind fun t107 => (if x8.length < 17592186044416 then (pc_.l1 k x0 x1 x5 x6 x7 (x8 ++ [t107]) x17 x18 x22 x23 (wrap64 (x24 + 1))) else (none))) else (none)) else (none)) else (if x8.length < 17592186044416 then (if x5.length < 5864062014805 then (pc_.l0 k x0 x1 (x5 ++ [(x8 ++ [x7])]) x17 (wrap64 (x18 + 1))) else (none)) else (none))
def pc_.l2 : Nat → List Int → List Int → List Int → List Int → Int → Int → Option (List Int)
 | 0, _, _, _, _, _, _ => none
 | k + 1, x0, x11, x13, x54, x55, x56 => if x56 < x55 then (if 0 ≤ x56 then (if x56 < (x54.length : Int) then (if 0 ≤ (rd x54 x56) then (if (rd x54 x56) < (x0.length : Int) then (if x56 < (x11.length : Int) then (if (rd x54 x56) < (x13.length : Int) then (pc_.l2 k x0 x11 (x13.set ((rd x54 x56) : Int).toNat (Go.bits .xor .i64 (mx (rd x0 (rd x54 x56)) 0) (rd x11 x56))) x54 x55 (wrap64 (x56 + 1))) else (none)) else (none)) else (none)) else (none)) else (none)) else (none)) else (some x13)
end
def pc_.f (k : Nat) (l0 : List Int) (l1 : List Int) : Option (List Int) := (yl_.f l0).bind fun t102 => (pc_.l0 k l0 l1 ([] : List (List Int)) t102 0)
theorem pc_.xc_ : ∀ k, (∀ y0 y1 y2 y3 y4, LeO (pc_.l0 k y0 y1 y2 y3 y4) (pc_.l0 (k + 1) y0 y1 y2 y3 y4)) ∧ (∀ y0 y1 y2 y3 y4 y5 y6 y7 y8 y9 y10, LeO (pc_.l1 k y0 y1 y2 y3 y4 y5 y6 y7 y8 y9 y10) (pc_.l1 (k + 1) y0 y1 y2 y3 y4 y5 y6 y7 y8 y9 y10)) ∧ (∀ y0 y1 y2 y3 y4 y5, LeO (pc_.l2 k y0 y1 y2 y3 y4 y5) (pc_.l2 (k + 1) y0 y1 y2 y3 y4 y5))
 | 0 => ⟨fun _ _ _ _ _ r h => by simp [pc_.l0] at h, fun _ _ _ _ _ _ _ _ _ _ _ r h => by simp [pc_.l1] at h, fun _ _ _ _ _ _ r h => by simp [pc_.l2] at h⟩
 | k + 1 => by
  obtain ⟨ih0, ih1, ih2⟩ := pc_.xc_ k
  refine ⟨?_, ?_, ?_⟩
  ·intro y0 y1 y2 y3 y4
   unfold pc_.l0
   repeat' first
   | (with_reducible exact ih0 _ _ _ _ _)
   | (with_reducible exact ih1 _ _ _ _ _ _ _ _ _ _ _)
   | (with_reducible exact ih2 _ _ _ _ _ _)
   | (with_reducible exact LeO.refl _)
   | (with_reducible exact LeO.none _)
   | (with_reducible refine LeO.ite ?_ ?_)
   | (with_reducible refine LeO.bind ?_ (fun _ => ?_))
   | exact ih0 _ _ _ _ _
   | exact ih1 _ _ _ _ _ _ _ _ _ _ _
   | exact ih2 _ _ _ _ _ _
   | exact LeO.none _
   | refine LeO.ite ?_ ?_
   | refine LeO.bind ?_ (fun _ => ?_)
  ·intro y0 y1 y2 y3 y4 y5 y6 y7 y8 y9 y10
   unfold pc_.l1
   repeat' first
   | (with_reducible exact ih0 _ _ _ _ _)
   | (with_reducible exact ih1 _ _ _ _ _ _ _ _ _ _ _)
   | (with_reducible exact ih2 _ _ _ _ _ _)
   | (with_reducible exact LeO.refl _)
   | (with_reducible exact LeO.none _)
   | (with_reducible refine LeO.ite ?_ ?_)
   | (with_reducible refine LeO.bind ?_ (fun _ => ?_))
   | exact ih0 _ _ _ _ _
   | exact ih1 _ _ _ _ _ _ _ _ _ _ _
   | exact ih2 _ _ _ _ _ _
   | exact LeO.none _
   | refine LeO.ite ?_ ?_
   | refine LeO.bind ?_ (fun _ => ?_)
  ·intro y0 y1 y2 y3 y4 y5
   unfold pc_.l2
   repeat' first
   | (with_reducible exact ih0 _ _ _ _ _)
   | (with_reducible exact ih1 _ _ _ _ _ _ _ _ _ _ _)
   | (with_reducible exact ih2 _ _ _ _ _ _)
   | (with_reducible exact LeO.refl _)
   | (with_reducible exact LeO.none _)
   | (with_reducible refine LeO.ite ?_ ?_)
   | (with_reducible refine LeO.bind ?_ (fun _ => ?_))
   | exact ih0 _ _ _ _ _
   | exact ih1 _ _ _ _ _ _ _ _ _ _ _
   | exact ih2 _ _ _ _ _ _
   | exact LeO.none _
   | refine LeO.ite ?_ ?_
   | refine LeO.bind ?_ (fun _ => ?_)
theorem pc_.mono : ∀ a0 a1 k, LeO (pc_.f k a0 a1) (pc_.f (k + 1) a0 a1) := by
 intro a0 a1 k
 obtain ⟨ih0, ih1, ih2⟩ := pc_.xc_ k
 unfold pc_.f
 repeat' first
   | (with_reducible exact ih0 _ _ _ _ _)
   | (with_reducible exact ih1 _ _ _ _ _ _ _ _ _ _ _)
   | (with_reducible exact ih2 _ _ _ _ _ _)
   | (with_reducible exact LeO.refl _)
   | (with_reducible exact LeO.none _)
   | (with_reducible refine LeO.ite ?_ ?_)
   | (with_reducible refine LeO.bind ?_ (fun _ => ?_))
   | exact ih0 _ _ _ _ _
   | exact ih1 _ _ _ _ _ _ _ _ _ _ _
   | exact ih2 _ _ _ _ _ _
   | exact LeO.none _
   | refine LeO.ite ?_ ?_
   | refine LeO.bind ?_ (fun _ => ?_)
def pc_.T20 : Bool × List (List Nat × List Nat) := (true, [([], []), ([], []), ([], []), ([], []), ([2, 3], [2, 3]), ([4], [4]), ([5], [5]), ([], []), ([], []), ([7, 8], [7, 8]), ([9], [9]), ([6, 10], [6, 10]), ([0, 1, 0, 1, 2, 3, 4, 5, 6, 7, 8, 9, 10, 11], [0, 1]), ([12, 11, 0, 1, 2, 3, 4, 5, 6, 7, 8, 9, 10, 11], [11, 12])])
def pc_.B20 : List Nat := [0, 0, 0, 0, 12, 28, 60, 0, 0, 384, 896, 2044, 4095, 8191]
theorem pc_.tab20 : rtab .any (opsOf Try.f47 20) = pc_.T20 := by kernel_rfl
theorem pc_.bits20 : yi_ pc_.T20.2 pc_.B20 = true := by kernel_rfl
set_option maxHeartbeats 8000000 in
set_option maxRecDepth 100000 in
theorem pc_.calls (k : Nat) (A0 : Option Addr) (c0 : Nat) (l0 : List Int) (A1 : Option Addr) (c1 : Nat) (l1 : List Int) (r : List Int) (w : World) (hr0 : Kd.C (Kd.int .i64) w A0 l0.length l0) (hc0 : l0.length ≤ c0) (hr1 : Kd.C (Kd.int .i64) w A1 l1.length l1) (hc1 : l1.length ≤ c1) (h : pc_.f k l0 l1 = some r) :
  Calls Try.prog 47 #[.slice A0 l0.length c0, .slice A1 l1.length c1] w fun e w' => ∃ v0_ : Value, e = .returned (v0_) ∧ Kd.R (Kd.int .i64) 3 w' w.heap.size (fun _ => True) v0_ r ∧ Below w.heap.size w w' ∧ (l0 ≠ [] → r = [] → v0_ = .slice none 0 0) := by
 have HR0 := ba_.mk hr0
 have HC0 := ba_.mk hc0
 clear hr0 hc0
 have HR1 := ba_.mk hr1
 have HC1 := ba_.mk hc1
 clear hr1 hc1
 have HB := ba_.mk (Below.refl w.heap.size w)
 have H : ((yl_.f l0).bind fun t102 => (pc_.l0 k l0 l1 ([] : List (List Int)) t102 0)) = some r := h
 clear h
 replace H := Option.bind_eq_some_iff.mp H
 obtain ⟨t102, A30, H⟩ := H
 replace H : (pc_.l0 k l0 l1 ([] : List (List Int)) t102 0) = some r := H
 have A3 := ba_.mk A30
 clear A30
 have H' := ba_.mk H
 clear H
 go_enter Try.func47, Try.ntmps47
 go_wp2_with (first | ((with_reducible refine ua_ (f := 50) rfl ?_); refine hc_ (some 17) rfl rfl Try.func50 (by kernel_rfl) rfl #[.slice A0 l0.length c0] rfl (by (try simp only [List.map_toArray, List.map_cons, List.map_nil]); first | done | rfl | (simp only [List.length_drop, List.length_take]; rfl)) ?_; (with_reducible refine (yl_.calls _ _ l0 t102 _ ?side1 ?side2 A3.out).mono ?_); (case side1 => repeat (first | exact HR0.out | (with_reducible refine Kd.yb_ ?_ _) | (with_reducible refine Kd.zb_ ?_ _) | (with_reducible refine Kd.jc_ ?_))); (case side2 => exact HC0.out); rintro e w4 ⟨v103, hv9, rfl, hb⟩; refine ⟨_, rfl, ?_⟩; have HV9 := ba_.mk hv9; clear hv9; have n1_ := ba_.mk (gb_ (by repeat (first | (with_reducible first | exact HB.out | apply fa_ | apply ca_ | apply ga_) | exact HB.out)) hb); clear HB; have HB := n1_; clear n1_; (try clear hb); (try clear hb2); (try clear hk); (try clear hi)))
 go_loopg [5, 18] k (fun kq v5 v18 w' => ∃ (x5_1 : List (List Int)) (x18_1 : Int), v18 = .int .i64 x18_1 ∧ ba_ (pc_.l0 kq l0 l1 x5_1 t102 x18_1 = some r) ∧ ba_ (kq ≤ k) ∧ ba_ (Kd.S (Kd.slice 57 (Kd.int .i64)) 69 w' w.heap.size (fun _ => True) v5 x5_1) ∧ ba_ (Below w.heap.size w w'))
 case atStart => exact ⟨(([] : List (List Int))), (0), (by first | rfl | (simp; done) | (simp [*]; done)), H', ⟨Nat.le_refl _⟩, ⟨by first | exact Kd.oh_ _ _ _ _ _ | exact Kd.mh_ _ _ _ _ _ | exact Kd.ph_ _ _ _ _ _ | exact Kd.nh_ _ _ _ _ _ | exact Kd.uf_ _ _ _ _ _⟩, ⟨by repeat (first | (with_reducible first | exact HB.out | apply fa_ | apply ca_ | apply ga_) | exact HB.out)⟩⟩
 case round =>
  clear H'
  try clear c1
  try clear p2
  try clear c4
  obtain ⟨x5_1, x18_1, rfl, HA, HK1, HO_5, HB⟩ := hrel
  cases gk with
  | zero => exact absurd HA.out (by simp [pc_.l0])
  | succ k1 =>
   have H := HA.out
   clear HA
   simp only [pc_.l0] at H
   by_cases c5 : x18_1 < 6
   ·rw [if_pos c5] at H
    have c5b0 : decide (x18_1 < 6) = true := decide_eq_true c5
    clear c5
    by_cases c6 : 0 ≤ x18_1
    ·rw [if_pos c6] at H
     have c6b0 : decide (0 ≤ x18_1) = true := decide_eq_true c6
     clear c6
     by_cases c7 : x18_1 < (t102.length : Int)
     ·rw [if_pos c7] at H
      have c7b0 : decide (x18_1 < (t102.length : Int)) = true := decide_eq_true c7
      clear c7
      have H' := ba_.mk H
      clear H
      have p105 : 0 ≤ (x18_1 : Int) := of_decide_eq_true (by first | (with_reducible assumption) | assumption)
      have q105 : x18_1 < (t102.length : Int) := of_decide_eq_true (by first | (with_reducible assumption) | assumption)
      have hix := cz_ v103 (t102) x18_1 p105 (of_decide_eq_true c5b0) (kj_ A3.out) HV9.out
      replace p105 := eq_true p105
      replace q105 := eq_true q105
      go_wp2
      go_loopg [8, 24] k1 (fun kq v8 v24 w' => ∃ (x8_2 : List Int) (x24_2 : Int), v24 = .int .i64 x24_2 ∧ ba_ (pc_.l1 kq l0 l1 x5_1 x18_1 (rd t102 x18_1) x8_2 t102 x18_1 l1 (l1.length : Int) x24_2 = some r) ∧ ba_ (kq ≤ k1) ∧ ba_ (Kd.S (Kd.slice 57 (Kd.int .i64)) 69 w' w.heap.size (fun k_ => some k_ ≠ (v8 : Value).ownBlock) u5 x5_1) ∧ ba_ (Kd.R (Kd.int .i64) 57 w' w.heap.size (fun _ => True) v8 x8_2) ∧ ba_ (Below w.heap.size w w'))
      case atStart => exact ⟨(([] : List Int)), (0), (by first | rfl | (simp; done) | (simp [*]; done)), H', ⟨Nat.le_refl _⟩, ⟨by (with_reducible repeat (first | apply Kd.bg_ | apply Kd.cg_ | apply Kd.yh_)); exact Kd.cm_ HO_5.out (fun _ hk => (by simp [Value.ownBlock]))⟩, ⟨by first | exact Kd.uf_ _ _ _ _ _ | exact Kd.mh_ _ _ _ _ _ | exact Kd.ph_ _ _ _ _ _ | exact Kd.nh_ _ _ _ _ _ | exact Kd.oh_ _ _ _ _ _⟩, ⟨by repeat (first | (with_reducible first | exact HB.out | apply fa_ | apply ca_ | apply ga_) | exact HB.out)⟩⟩
      case round =>
       clear H'
       try clear c1
       try clear p1
       try clear q1
       try clear hx1
       try clear p2
       try clear c4
       try clear c5
       try clear c5b0
       try clear c6
       try clear c6b0
       try clear c7
       try clear c7b0
       try clear hx105_0
       try clear p105
       try clear p2
       try clear q105
       obtain ⟨x8_2, x24_2, rfl, HA, HK2, HO_5, HO_8, HB⟩ := hrel
       cases gk with
       | zero => exact absurd HA.out (by simp [pc_.l1])
       | succ k2 =>
        have H := HA.out
        clear HA
        simp only [pc_.l1] at H
        by_cases c9 : x24_2 < (l1.length : Int)
        ·rw [if_pos c9] at H
         have c9b0 : decide (x24_2 < (l1.length : Int)) = true := decide_eq_true c9
         clear c9
         by_cases c10 : 0 ≤ x24_2
         ·rw [if_pos c10] at H
          have c10b0 : decide (0 ≤ x24_2) = true := decide_eq_true c10
          clear c10
          by_cases c11 : x24_2 < (l1.length : Int)
          ·rw [if_pos c11] at H
           have c11b0 : decide (x24_2 < (l1.length : Int)) = true := decide_eq_true c11
           clear c11
           replace H := Option.bind_eq_some_iff.mp H
           obtain ⟨t107, A120, H⟩ := H
           replace H : (if x8_2.length < 17592186044416 then (pc_.l1 k2 l0 l1 x5_1 x18_1 (rd t102 x18_1) (x8_2 ++ [t107]) t102 x18_1 l1 (l1.length : Int) (wrap64 (x24_2 + 1))) else (none)) = some r := H
           have A12 := ba_.mk A120
           clear A120
           by_cases c13 : x8_2.length < 17592186044416
           ·rw [if_pos c13] at H
            have LMc13 := ba_.mk c13
            clear c13
            obtain ⟨y108, hy108⟩ : ∃ y_ : List Int, y_ = (x8_2 ++ [t107]) := ⟨_, rfl⟩
            replace H : (pc_.l1 k2 l0 l1 x5_1 x18_1 (rd t102 x18_1) y108 t102 x18_1 l1 (l1.length : Int) (wrap64 (x24_2 + 1))) = some r := by first | (rw [hy108]; with_reducible exact H) | (have H2_ := (Option.bind_some _ _).symm.trans H; rw [hy108]; with_reducible exact H2_) | (have H2_ := (Option.bind_some _ _).symm.trans H; with_reducible exact H2_) | with_reducible exact H | (rw [hy108]; exact H) | exact H
            have Ny108 := ba_.mk hy108
            clear hy108
            have H' := ba_.mk H
            clear H
            have p106 : 0 ≤ (x24_2 : Int) := of_decide_eq_true (by first | (with_reducible assumption) | assumption)
            have q106 : x24_2 < (l1.length : Int) := of_decide_eq_true (by first | (with_reducible assumption) | assumption)
            obtain ⟨ad106, e106, hx106_0⟩ := Kd.nd_ HR1.out x24_2 p106 q106
            cases e106
            replace hx106_0 := (HB.out.cell (World.block_lt_of_cell? w _ hx106_0)).trans hx106_0
            replace p106 := eq_true p106
            replace q106 := eq_true q106
            go_wp2_with (first | ((with_reducible refine ua_ (f := 62) rfl ?_); refine hc_ (some 33) rfl rfl Try.func62 (by kernel_rfl) rfl #[.slice A0 l0.length c0, .int .i64 (rd l1 x24_2), .int .i64 (wrap64 (x18_1 + 1))] rfl (by (try simp only [List.map_toArray, List.map_cons, List.map_nil]); first | done | rfl | (simp only [List.length_drop, List.length_take]; rfl)) ?_; (with_reducible refine (g_at.calls _ _ l0 (rd l1 x24_2) (wrap64 (x18_1 + 1)) t107 _ ?side1 ?side2 A12.out).mono ?_); (case side1 => repeat (first | exact (Kd.ie_ HR0.out HB.out) | (with_reducible refine Kd.yb_ ?_ _) | (with_reducible refine Kd.zb_ ?_ _) | (with_reducible refine Kd.jc_ ?_))); (case side2 => exact HC0.out); rintro e w' ⟨rfl, ⟨nd, rfl⟩⟩; refine ⟨_, rfl, ?_⟩) | ((with_reducible refine hd_ (b := .append) (xs := #[.tmp 28, .tmp 34]) rfl ?_); at_builtin; refine Kd.qe_ (Kd.int .i64) (w0 := w) w.heap.size rfl (.tmp 28) (.tmp 34) 69 57 (.int .i64 0) 8 rfl Try.underlying69 bo_ rfl (by decide) (by omega) u8 x8_2 t107 [.int .i64 t107] (fun _ => True) (fun _ => False) rfl rfl ?aP (fun _ hk => hk.elim) ?aF ?aO ?aB ?aS ?aL ?_; (case aP => exact rfl); (case aB => exact (by repeat (first | (with_reducible first | exact HB.out | apply fa_ | apply ca_ | apply ga_) | exact HB.out))); (case aF => exact (fun _ _ => trivial)); (case aO => exact (by (with_reducible repeat (first | apply Kd.la_ | apply Kd.ka_ | apply Kd.ma_)); exact HO_8.out)); (case aS => exact (eb_ (by repeat (first | (with_reducible first | exact HB.out | apply fa_ | apply ca_ | apply ga_) | exact HB.out)))); (case aL => have := LMc13.out; omega); intro v109 w14 ho hb hg hat; rw [← Ny108.out] at ho; have n0_ := ba_.mk (Kd.kn_ (ok := (fun _ => True)) (by (with_reducible repeat (first | apply Kd.bg_ | apply Kd.cg_ | apply Kd.yh_)); exact Kd.cm_ HO_5.out (fun _ hk => ⟨trivial, hk⟩)) hg hat); have n2_ := ba_.mk (hb); have n3_ := ba_.mk (ho); clear HO_5; clear HB; clear HO_8; have HO_5 := n0_; have HB := n2_; have HO110 := n3_; clear n0_ n2_ n3_; clear ho hb hg hat))
            go_roundg k2
            case measure => have := HK1.out; have := HK2.out; omega
            case rel => exact ⟨(y108), (wrap64 (x24_2 + 1)), (by first | rfl | (simp; done) | (simp [*]; done)), H', ⟨by have := HK1.out; have := HK2.out; omega⟩, ⟨by (with_reducible repeat (first | apply Kd.bg_ | apply Kd.cg_ | apply Kd.yh_)); exact Kd.cm_ HO_5.out (fun _ hk => hk.2)⟩, ⟨by (with_reducible repeat (first | apply Kd.la_ | apply Kd.ka_ | apply Kd.ma_)); exact HO110.out⟩, ⟨by repeat (first | (with_reducible first | exact HB.out | apply fa_ | apply ca_ | apply ga_) | exact HB.out)⟩⟩
           ·rw [if_neg c13] at H
            exact absurd H (by simp)
          ·rw [if_neg c11] at H
           exact absurd H (by simp)
         ·rw [if_neg c10] at H
          exact absurd H (by simp)
        ·rw [if_neg c9] at H
         have c9b0 : decide (x24_2 < (l1.length : Int)) = false := decide_eq_false c9
         clear c9
         by_cases c15 : x8_2.length < 17592186044416
         ·rw [if_pos c15] at H
          have LMc15 := ba_.mk c15
          clear c15
          obtain ⟨y111, hy111⟩ : ∃ y_ : List Int, y_ = (x8_2 ++ [(rd t102 x18_1)]) := ⟨_, rfl⟩
          replace H : (if x5_1.length < 5864062014805 then (pc_.l0 k2 l0 l1 (x5_1 ++ [y111]) t102 (wrap64 (x18_1 + 1))) else (none)) = some r := by first | (rw [hy111]; with_reducible exact H) | (have H2_ := (Option.bind_some _ _).symm.trans H; rw [hy111]; with_reducible exact H2_) | (have H2_ := (Option.bind_some _ _).symm.trans H; with_reducible exact H2_) | with_reducible exact H | (rw [hy111]; exact H) | exact H
          have Ny111 := ba_.mk hy111
          clear hy111
          by_cases c16 : x5_1.length < 5864062014805
          ·rw [if_pos c16] at H
           have LMc16 := ba_.mk c16
           clear c16
           obtain ⟨y114, hy114⟩ : ∃ y_ : List (List Int), y_ = (x5_1 ++ [y111]) := ⟨_, rfl⟩
           replace H : (pc_.l0 k2 l0 l1 y114 t102 (wrap64 (x18_1 + 1))) = some r := by first | (rw [hy114]; with_reducible exact H) | (have H2_ := (Option.bind_some _ _).symm.trans H; rw [hy114]; with_reducible exact H2_) | (have H2_ := (Option.bind_some _ _).symm.trans H; with_reducible exact H2_) | with_reducible exact H | (rw [hy114]; exact H) | exact H
           have Ny114 := ba_.mk hy114
           clear hy114
           have H' := ba_.mk H
           clear H
           go_wp2_with (first | ((with_reducible refine hd_ (b := .append) (xs := #[.tmp 38, .tmp 40]) rfl ?_); at_builtin; refine Kd.qe_ (Kd.int .i64) (w0 := w) w.heap.size rfl (.tmp 38) (.tmp 40) 69 57 (.int .i64 0) 8 rfl Try.underlying69 bo_ rfl (by decide) (by omega) u8 x8_2 (rd t102 x18_1) [.int .i64 (rd t102 x18_1)] (fun _ => True) (fun _ => False) rfl rfl ?aP (fun _ hk => hk.elim) ?aF ?aO ?aB ?aS ?aL ?_; (case aP => exact rfl); (case aB => exact (by repeat (first | (with_reducible first | exact HB.out | apply fa_ | apply ca_ | apply ga_) | exact HB.out))); (case aF => exact (fun _ _ => trivial)); (case aO => exact (by (with_reducible repeat (first | apply Kd.la_ | apply Kd.ka_ | apply Kd.ma_)); exact HO_8.out)); (case aS => exact (eb_ (by repeat (first | (with_reducible first | exact HB.out | apply fa_ | apply ca_ | apply ga_) | exact HB.out)))); (case aL => have := LMc15.out; omega); intro v112 w17 ho hb hg hat; rw [← Ny111.out] at ho; have n0_ := ba_.mk (Kd.kn_ (ok := (fun _ => True)) (by (with_reducible repeat (first | apply Kd.bg_ | apply Kd.cg_ | apply Kd.yh_)); exact Kd.cm_ HO_5.out (fun _ hk => ⟨trivial, hk⟩)) hg hat); have n2_ := ba_.mk (hb); have n3_ := ba_.mk (ho); clear HO_5; clear HB; clear HO_8; have HO_5 := n0_; have HB := n2_; have HO113 := n3_; clear n0_ n2_ n3_; clear ho hb hg hat; obtain ⟨Ao19, co19, eo19⟩ := Kd.fc_ HO113.out; subst eo19) | ((with_reducible refine hd_ (b := .append) (xs := #[.tmp 37, .tmp 42]) rfl ?_); at_builtin; refine Kd.rr_ (Kd.slice 57 (Kd.int .i64)) (w0 := w) w.heap.size rfl (.tmp 37) (.tmp 42) 68 69 (.slice none 0 0) 24 rfl Try.underlying68 dz_ rfl (by decide) (by omega) u5 x5_1 y111 [.slice Ao19 y111.length co19] (fun _ => True) (fun k_ => some k_ = (.slice Ao19 y111.length co19 : Value).ownBlock) rfl rfl ?aP (fun k_ hk_ => ((Kd.bc_ (ok' := fun k_ => ((fun _ => True)) k_ ∧ some k_ ≠ (u5 : Value).ownBlock) (Kd.nl_ (HO113.out) (Kd.xk_ HO_5.out) (by decide)) (fun k_ hk => ⟨trivial, hk.2⟩))).1 k_ hk_.symm) ?aF ?aO ?aB ?aS ?aL ?_; (case aP => exact Kd.ad1_ (Kd.bc_ (Kd.or_ rfl (Kd.bc_ (ok' := fun k_ => ((fun _ => True)) k_ ∧ some k_ ≠ (u5 : Value).ownBlock) (Kd.nl_ (HO113.out) (Kd.xk_ HO_5.out) (by decide)) (fun k_ hk => ⟨trivial, hk.2⟩))) (fun _ h_ => h_))); (case aB => exact (by repeat (first | (with_reducible first | exact HB.out | apply fa_ | apply ca_ | apply ga_) | exact HB.out))); (case aF => exact (fun _ _ => trivial)); (case aO => exact (by (with_reducible repeat (first | apply Kd.bg_ | apply Kd.cg_ | apply Kd.yh_)); exact Kd.cm_ HO_5.out (fun k_ hk => ⟨trivial, fun e_ => hk.2 e_⟩))); (case aS => exact (eb_ (by repeat (first | (with_reducible first | exact HB.out | apply fa_ | apply ca_ | apply ga_) | exact HB.out)))); (case aL => have := LMc16.out; omega); intro v115 w18 ho hb hg hat; rw [← Ny114.out] at ho; have n1_ := ba_.mk (hb); have n2_ := ba_.mk (ho); clear HB; clear HO_5; clear HO113; have HB := n1_; have HO116 := n2_; clear n1_ n2_; clear ho hb hg hat))
           go_roundg k2
           case measure => have := HK1.out; have := HK2.out; omega
           case rel => exact ⟨(y114), (wrap64 (x18_1 + 1)), (by first | rfl | (simp; done) | (simp [*]; done)), H', ⟨by have := HK1.out; have := HK2.out; omega⟩, ⟨by (with_reducible repeat (first | apply Kd.bg_ | apply Kd.cg_ | apply Kd.yh_)); exact HO116.out⟩, ⟨by repeat (first | (with_reducible first | exact HB.out | apply fa_ | apply ca_ | apply ga_) | exact HB.out)⟩⟩
          ·rw [if_neg c16] at H
           exact absurd H (by simp)
         ·rw [if_neg c15] at H
          exact absurd H (by simp)
     ·rw [if_neg c7] at H
      exact absurd H (by simp)
    ·rw [if_neg c6] at H
     exact absurd H (by simp)
   ·rw [if_neg c5] at H
    have c5b0 : decide (x18_1 < 6) = false := decide_eq_false c5
    clear c5
    replace H := Option.bind_eq_some_iff.mp H
    obtain ⟨⟨t117, t118⟩, A200, H⟩ := H
    replace H : (if t118 = true then ((si_.f l0).bind fun t121 => (pc_.l2 k1 l0 t117 t121 l1 (l1.length : Int) 0)) else (some ([] : List Int))) = some r := H
    have A20 := ba_.mk A200
    clear A200
    by_cases c21 : t118 = true
    ·subst c21
     have H1 : ((si_.f l0).bind fun t121 => (pc_.l2 k1 l0 t117 t121 l1 (l1.length : Int) 0)) = some r := by rw [if_pos rfl] at H; exact H
     clear H
     have H := H1
     clear H1
     replace H := Option.bind_eq_some_iff.mp H
     obtain ⟨t121, A220, H⟩ := H
     replace H : (pc_.l2 k1 l0 t117 t121 l1 (l1.length : Int) 0) = some r := H
     have A22 := ba_.mk A220
     clear A220
     have H' := ba_.mk H
     clear H
     obtain ⟨Ao23, co23, eo23⟩ := Kd.cp_ HO_5.out
     subst eo23
     go_wp2_with (first | ((with_reducible refine ua_ (f := 63) rfl ?_); refine hc_ (some 47) rfl rfl Try.func63 (by kernel_rfl) rfl #[.slice Ao23 x5_1.length co23] rfl (by (try simp only [List.map_toArray, List.map_cons, List.map_nil]); first | done | rfl | (simp only [List.length_drop, List.length_take]; rfl)) ?_; (refine (ti_.calls w.heap.size _ _ _ x5_1 t117 true _ HO_5.out (eb_ HB.out) A20.out).mono ?_); rintro e w24 ⟨v119, rfl, ho0, hb⟩; refine ⟨_, rfl, ?_⟩; have n2_ := ba_.mk (Kd.wc_ ho0 (eb_ (by repeat (first | (with_reducible first | exact HB.out | apply fa_ | apply ca_ | apply ga_) | exact HB.out)))); have n3_ := ba_.mk (HB.out.trans hb); clear HB; have HO120 := n2_; have HB := n3_; clear n2_ n3_; (try clear hb); (try clear hb2); (try clear hk); (try clear hi); (try clear ho0)) | ((with_reducible refine ua_ (f := 64) rfl ?_); refine hc_ (some 53) rfl rfl Try.func64 (by kernel_rfl) rfl #[.slice A0 l0.length c0] rfl (by (try simp only [List.map_toArray, List.map_cons, List.map_nil]); first | done | rfl | (simp only [List.length_drop, List.length_take]; rfl)) ?_; (with_reducible refine (si_.calls _ _ l0 t121 _ ?side1 ?side2 A22.out).mono ?_); (case side1 => repeat (first | exact (Kd.ie_ HR0.out HB.out) | (with_reducible refine Kd.yb_ ?_ _) | (with_reducible refine Kd.zb_ ?_ _) | (with_reducible refine Kd.jc_ ?_))); (case side2 => exact HC0.out); rintro e w25 ⟨v122, rfl, ho0, hb⟩; refine ⟨_, rfl, ?_⟩; have n2_ := ba_.mk (Kd.cd_ (by (with_reducible repeat (first | apply Kd.la_ | apply Kd.ka_ | apply Kd.ma_)); exact HO120.out) hb); have n3_ := ba_.mk (Kd.wc_ ho0 (eb_ (by repeat (first | (with_reducible first | exact HB.out | apply fa_ | apply ca_ | apply ga_) | exact HB.out)))); have n4_ := ba_.mk (gb_ (by repeat (first | (with_reducible first | exact HB.out | apply fa_ | apply ca_ | apply ga_) | exact HB.out)) hb); clear HO120; clear HB; have HO120 := n2_; have HO123 := n3_; have HB := n4_; clear n2_ n3_ n4_; (try clear hb); (try clear hb2); (try clear hk); (try clear hi); (try clear ho0)))
     go_loopg [56] k1 (fun kq v56 w' => ∃ (x13_2 : List Int) (x56_2 : Int), v56 = .int .i64 x56_2 ∧ ba_ (pc_.l2 kq l0 t117 x13_2 l1 (l1.length : Int) x56_2 = some r) ∧ ba_ (kq ≤ k1) ∧ ba_ (Kd.R (Kd.int .i64) 57 w' w.heap.size (fun _ => True) v119 t117) ∧ ba_ (Kd.R (Kd.int .i64) 3 w' w.heap.size (fun _ => True) v122 x13_2) ∧ ba_ (Below w.heap.size w w'))
     case atStart => exact ⟨(t121), (0), (by first | rfl | (simp; done) | (simp [*]; done)), H', ⟨Nat.le_refl _⟩, ⟨by (with_reducible repeat (first | apply Kd.la_ | apply Kd.ka_ | apply Kd.ma_)); exact HO120.out⟩, ⟨by (with_reducible repeat (first | apply Kd.la_ | apply Kd.ka_ | apply Kd.ma_)); exact HO123.out⟩, ⟨by repeat (first | (with_reducible first | exact HB.out | apply fa_ | apply ca_ | apply ga_) | exact HB.out)⟩⟩
     case round =>
      clear H'
      try clear c1
      try clear p1
      try clear q1
      try clear hx1
      try clear c2
      try clear p2
      try clear c4
      try clear c5
      try clear c5b0
      try clear c6
      try clear c6b0
      try clear p6
      try clear c7
      try clear c7b0
      try clear c9
      try clear c9b0
      try clear c10
      try clear c10b0
      try clear p10
      try clear q10
      try clear hx10
      try clear c11
      try clear c11b0
      try clear c13
      try clear c15
      try clear c16
      try clear c21
      try clear hx105_0
      try clear hx106_0
      try clear p1
      try clear p105
      try clear p106
      try clear p2
      try clear q1
      try clear q105
      try clear q106
      obtain ⟨x13_2, x56_2, rfl, HA, HK2, HO_11, HO_13, HB⟩ := hrel
      cases gk with
      | zero => exact absurd HA.out (by simp [pc_.l2])
      | succ k2 =>
       have H := HA.out
       clear HA
       simp only [pc_.l2] at H
       by_cases c26 : x56_2 < (l1.length : Int)
       ·rw [if_pos c26] at H
        have c26b0 : decide (x56_2 < (l1.length : Int)) = true := decide_eq_true c26
        clear c26
        by_cases c27 : 0 ≤ x56_2
        ·rw [if_pos c27] at H
         have c27b0 : decide (0 ≤ x56_2) = true := decide_eq_true c27
         clear c27
         by_cases c28 : x56_2 < (l1.length : Int)
         ·rw [if_pos c28] at H
          have c28b0 : decide (x56_2 < (l1.length : Int)) = true := decide_eq_true c28
          clear c28
          by_cases c29 : 0 ≤ (rd l1 x56_2)
          ·rw [if_pos c29] at H
           have c29b0 : decide (0 ≤ (rd l1 x56_2)) = true := decide_eq_true c29
           clear c29
           by_cases c30 : (rd l1 x56_2) < (l0.length : Int)
           ·rw [if_pos c30] at H
            have c30b0 : decide ((rd l1 x56_2) < (l0.length : Int)) = true := decide_eq_true c30
            clear c30
            obtain ⟨ji31, hji31⟩ : ∃ j_ : Int, (mx (rd l0 (rd l1 x56_2)) 0) = j_ := ⟨_, rfl⟩
            replace H : (if x56_2 < (t117.length : Int) then (if (rd l1 x56_2) < (x13_2.length : Int) then (pc_.l2 k2 l0 t117 (x13_2.set ((rd l1 x56_2) : Int).toNat (Go.bits .xor .i64 (ji31) (rd t117 x56_2))) l1 (l1.length : Int) (wrap64 (x56_2 + 1))) else (none)) else (none)) = some r := by first | (rw [hji31] at H; exact H) | (simp only [hji31] at H ⊢; exact H)
            have hji31_ : (if (rd l0 (rd l1 x56_2)) < 0 then 0 else (rd l0 (rd l1 x56_2))) = ji31 := hji31
            by_cases c32 : x56_2 < (t117.length : Int)
            ·rw [if_pos c32] at H
             have c32b0 : decide (x56_2 < (t117.length : Int)) = true := decide_eq_true c32
             clear c32
             by_cases c33 : (rd l1 x56_2) < (x13_2.length : Int)
             ·rw [if_pos c33] at H
              have c33b0 : decide ((rd l1 x56_2) < (x13_2.length : Int)) = true := decide_eq_true c33
              clear c33
              obtain ⟨y127, hy127⟩ : ∃ y_ : List Int, y_ = (x13_2.set ((rd l1 x56_2) : Int).toNat (Go.bits .xor .i64 (ji31) (rd t117 x56_2))) := ⟨_, rfl⟩
              replace H : (pc_.l2 k2 l0 t117 y127 l1 (l1.length : Int) (wrap64 (x56_2 + 1))) = some r := by first | (rw [hy127]; with_reducible exact H) | (have H2_ := (Option.bind_some _ _).symm.trans H; rw [hy127]; with_reducible exact H2_) | (have H2_ := (Option.bind_some _ _).symm.trans H; with_reducible exact H2_) | with_reducible exact H | (rw [hy127]; exact H) | exact H
              have Ny127 := ba_.mk hy127
              clear hy127
              have H' := ba_.mk H
              clear H
              have p124 : 0 ≤ (x56_2 : Int) := of_decide_eq_true (by first | (with_reducible assumption) | assumption)
              have q124 : x56_2 < (l1.length : Int) := of_decide_eq_true (by first | (with_reducible assumption) | assumption)
              obtain ⟨ad124, e124, hx124_0⟩ := Kd.nd_ HR1.out x56_2 p124 q124
              cases e124
              replace hx124_0 := (HB.out.cell (World.block_lt_of_cell? w _ hx124_0)).trans hx124_0
              replace p124 := eq_true p124
              replace q124 := eq_true q124
              try go_wp2
              have n0_ := ba_.mk (Kd.ma_ HO_11.out)
              have n1_ := ba_.mk (Kd.ma_ HO_13.out)
              have n2_ := ba_.mk (ga_ HB.out)
              clear HO_11
              clear HO_13
              clear HB
              have HO_11 := n0_
              have HO_13 := n1_
              have HB := n2_
              clear n0_ n1_ n2_
              have p125 : 0 ≤ ((rd l1 x56_2) : Int) := of_decide_eq_true (by first | (with_reducible assumption) | assumption)
              have q125 : (rd l1 x56_2) < (l0.length : Int) := of_decide_eq_true (by first | (with_reducible assumption) | assumption)
              obtain ⟨ad125, e125, hx125_0⟩ := Kd.nd_ HR0.out (rd l1 x56_2) p125 q125
              have hw125_0 := hx125_0
              cases e125
              replace hx125_0 := (HB.out.cell (World.block_lt_of_cell? w _ hx125_0)).trans hx125_0
              replace p125 := eq_true p125
              replace q125 := eq_true q125
              obtain ⟨Ao36, co36, eo36⟩ := Kd.fc_ HO_11.out
              (first | subst eo36 | (injection eo36 with f1_ f2_ f3_; have f4_ := f1_.symm; have f5_ := f3_.symm; clear f1_ f2_ f3_; subst f4_; subst f5_))
              have p126 : 0 ≤ (x56_2 : Int) := of_decide_eq_true (by first | (with_reducible assumption) | assumption)
              have q126 : x56_2 < (t117.length : Int) := of_decide_eq_true (by first | (with_reducible assumption) | assumption)
              obtain ⟨ad126, e126, hx126_0⟩ := Kd.nd_ (Kd.ta_ HO_11.out).2.2 x56_2 p126 q126
              cases e126
              replace p126 := eq_true p126
              replace q126 := eq_true q126
              have p34 : 0 ≤ ((rd l1 x56_2) : Int) := of_decide_eq_true (by first | (with_reducible assumption) | assumption)
              have q34 : ((rd l1 x56_2) : Int) < ((x13_2.length : Int) : Int) := of_decide_eq_true (by first | (with_reducible assumption) | assumption)
              obtain ⟨go34, co34, eo34, gb34, gl34, cl34, HG34⟩ := Kd.yg_ HO_13.out (by omega)
              (first | cases eo34 | (injection eo34 with ea_ en_ ec_; (first | subst ea_ | (injection ea_ with ea_; subst ea_)); subst ec_; clear en_))
              have GB34 := ba_.mk gb34
              have GG34 := ba_.mk HG34
              clear gb34 gl34 HG34
              obtain ⟨hx34_0, hf34_0⟩ := Kd.of_ 0 HO_13.out ((rd l1 x56_2) : Int) p34 q34
              replace p34 := eq_true p34
              replace q34 := eq_true q34
              have HP37 := Kd.bm_ HO_13.out ((rd l1 x56_2) : Int) (Go.bits .xor .i64 (ji31) (rd t117 x56_2))
              rw [← Ny127.out] at HP37
              have HQ37 := ba_.mk HP37
              clear HP37
              refine mi_ (n := 14) (S := fun w' => w'.cell? (ad125.add ((rd l1 x56_2)).toNat) = some (.int .i64 (rd l0 (rd l1 x56_2))) ∧ w'.cell? (ad126.add (x56_2).toNat) = some (.int .i64 (rd t117 x56_2))) (ds := [13]) #[false, false, false, false, false, false, false, false, false, false, false, false, false, false] (by kernel_rfl) rfl rfl ⟨((HB.out.cell (World.block_lt_of_cell? w _ hw125_0)).trans hw125_0), hx126_0⟩ (fun hHeld => ?_); refine ni_ pc_.tab20 pc_.bits20 (fun HT_ HW_ => ?_)
              generalize wr.drew = w35 at HO_11 HO_13 HB GG34 HQ37 hf34_0 hx125_0 hx126_0 hx34_0 hHeld ⊢
              refine id_ (i := 0) (N := some 61) (v := ?_) (a' := ?_) #[true, false, false, false, false, false, false, false, false, false, false, false, false, false] rfl rfl (td_ HT_.out (by kernel_rfl)) (fun _ _ _ h => h) (Or.inl ⟨by rfl, ?_⟩) ?_ ?_
              rotate_left
              ·intro w'
               go_simp
               with_reducible rfl
              rotate_left
              ·simp only [Act.put, List.setIfInBounds_toArray, List.set_cons_zero, List.set_cons_succ, gc_, lc_]
               rfl
              refine id_ (i := 1) (N := some 62) (v := ?_) (a' := ?_) #[true, true, false, false, false, false, false, false, false, false, false, false, false, false] rfl rfl (td_ HT_.out (by kernel_rfl)) (fun _ _ _ h => h) (Or.inl ⟨by rfl, ?_⟩) ?_ ?_
              rotate_left
              ·intro w'
               go_simp
               with_reducible rfl
              rotate_left
              ·simp only [Act.put, List.setIfInBounds_toArray, List.set_cons_zero, List.set_cons_succ, gc_, lc_]
               rfl
              refine id_ (i := 2) (N := some 63) (v := ?_) (a' := ?_) #[true, true, true, false, false, false, false, false, false, false, false, false, false, false] rfl rfl (td_ HT_.out (by kernel_rfl)) (fun _ _ _ h => h) (Or.inl ⟨by rfl, ?_⟩) ?_ ?_
              rotate_left
              ·intro w'
               go_simp
               with_reducible rfl
              rotate_left
              ·simp only [Act.put, List.setIfInBounds_toArray, List.set_cons_zero, List.set_cons_succ, gc_, lc_]
               rfl
              refine id_ (i := 3) (N := some 64) (v := ?_) (a' := ?_) #[true, true, true, true, false, false, false, false, false, false, false, false, false, false] rfl rfl (td_ HT_.out (by kernel_rfl)) (fun _ _ _ h => h) (Or.inl ⟨by rfl, ?_⟩) ?_ ?_
              rotate_left
              ·intro w'
               go_simp
               with_reducible rfl
              rotate_left
              ·simp only [Act.put, List.setIfInBounds_toArray, List.set_cons_zero, List.set_cons_succ, gc_, lc_]
               rfl
              refine id_ (i := 4) (N := some 65) (v := ?_) (a' := ?_) #[true, true, true, true, true, false, false, false, false, false, false, false, false, false] rfl rfl (td_ HT_.out (by kernel_rfl)) (fun _ _ _ h => h) (Or.inl ⟨by rfl, ?_⟩) ?_ ?_
              rotate_left
              ·intro w'
               go_simp
               with_reducible rfl
              rotate_left
              ·simp only [Act.put, List.setIfInBounds_toArray, List.set_cons_zero, List.set_cons_succ, gc_, lc_]
               rfl
              refine id_ (i := 7) (N := some 68) (v := ?_) (a' := ?_) #[true, true, true, true, true, false, false, true, false, false, false, false, false, false] rfl rfl (td_ HT_.out (by kernel_rfl)) (fun _ _ _ h => h) (Or.inl ⟨by rfl, ?_⟩) ?_ ?_
              rotate_left
              ·intro w'
               go_simp
               with_reducible rfl
              rotate_left
              ·simp only [Act.put, List.setIfInBounds_toArray, List.set_cons_zero, List.set_cons_succ, gc_, lc_]
               rfl
              refine id_ (i := 8) (N := some 69) (v := ?_) (a' := ?_) #[true, true, true, true, true, false, false, true, true, false, false, false, false, false] rfl rfl (td_ HT_.out (by kernel_rfl)) (fun _ _ _ h => h) (Or.inl ⟨by rfl, ?_⟩) ?_ ?_
              rotate_left
              ·intro w'
               go_simp
               with_reducible rfl
              rotate_left
              ·simp only [Act.put, List.setIfInBounds_toArray, List.set_cons_zero, List.set_cons_succ, gc_, lc_]
               rfl
              refine id_ (i := 9) (N := some 70) (v := ?_) (a' := ?_) #[true, true, true, true, true, false, false, true, true, true, false, false, false, false] rfl rfl (td_ HT_.out (by kernel_rfl)) (fun _ _ _ h => h) (Or.inl ⟨by rfl, ?_⟩) ?_ ?_
              rotate_left
              ·intro w'
               go_simp
               with_reducible rfl
              rotate_left
              ·simp only [Act.put, List.setIfInBounds_toArray, List.set_cons_zero, List.set_cons_succ, gc_, lc_]
               rfl
              refine bh_ (i := 5) (N := some 66) (v := ?_) (a' := ?_) #[true, true, true, true, true, true, false, true, true, true, false, false, false, false] rfl rfl (vg_ HT_.out HW_.out (by kernel_rfl)) (fun _ _ _ h => h) (Or.inl ⟨by rfl, ?_⟩) hHeld ?_ ?_
              rotate_left
              ·rintro w' ⟨s0, s1⟩
               go_simp
               with_reducible rfl
              rotate_left
              ·simp only [Act.put, List.setIfInBounds_toArray, List.set_cons_zero, List.set_cons_succ, gc_, lc_]
               rfl
              refine id_ (i := 6) (N := some 67) (v := ?_) (a' := ?_) #[true, true, true, true, true, true, true, true, true, true, false, false, false, false] rfl rfl (td_ HT_.out (by kernel_rfl)) (fun _ _ _ h => h) (Or.inl ⟨by rfl, ?_⟩) ?_ ?_
              rotate_left
              ·intro w'
               go_simp
               with_reducible rfl
              rotate_left
              ·simp only [Act.put, List.setIfInBounds_toArray, List.set_cons_zero, List.set_cons_succ, gc_, lc_]
               rfl
              refine bh_ (i := 10) (N := some 71) (v := ?_) (a' := ?_) #[true, true, true, true, true, true, true, true, true, true, true, false, false, false] rfl rfl (vg_ HT_.out HW_.out (by kernel_rfl)) (fun _ _ _ h => h) (Or.inl ⟨by rfl, ?_⟩) hHeld ?_ ?_
              rotate_left
              ·rintro w' ⟨s0, s1⟩
               go_simp
               with_reducible rfl
              rotate_left
              ·simp only [Act.put, List.setIfInBounds_toArray, List.set_cons_zero, List.set_cons_succ, gc_, lc_]
               rfl
              refine id_ (i := 11) (N := some 72) (v := ?_) (a' := ?_) #[true, true, true, true, true, true, true, true, true, true, true, true, false, false] rfl rfl (td_ HT_.out (by kernel_rfl)) (fun _ _ _ h => h) (Or.inl ⟨by rfl, ?_⟩) ?_ ?_
              rotate_left
              ·intro w'
               go_simp
               with_reducible rfl
              rotate_left
              ·simp only [Act.put, List.setIfInBounds_toArray, List.set_cons_zero, List.set_cons_succ, gc_, lc_]
               rfl
              refine id_ (i := 12) (N := some 73) (v := ?_) (a' := ?_) #[true, true, true, true, true, true, true, true, true, true, true, true, true, false] rfl rfl (td_ HT_.out (by kernel_rfl)) (fun _ _ _ h => h) (Or.inl ⟨by rfl, ?_⟩) ?_ ?_
              rotate_left
              ·intro w'
               go_simp
               with_reducible rfl
              rotate_left
              ·simp only [Act.put, List.setIfInBounds_toArray, List.set_cons_zero, List.set_cons_succ, gc_, lc_]
               rfl
              refine im_ (i := 13) (N := none) #[true, true, true, true, true, true, true, true, true, true, true, true, true, true] rfl rfl (ah_ HT_.out (by kernel_rfl)) (by decide) (fun K hK => ?_)
              refine lm_ (w1 := ?_) (by rfl) rfl ?_ ?_
              rotate_left
              ·go_simp
               rfl
              refine hK.out _ _ ?_
              clear hK K
              refine ik_ (jk_ HT_.out (by kernel_rfl)) ?_
              try go_wp2
              go_roundg k2
              case measure => have := HK1.out; have := HK2.out; omega
              case rel => exact ⟨(y127), (wrap64 (x56_2 + 1)), (by first | rfl | (simp; done) | (simp [*]; done)), H', ⟨by have := HK1.out; have := HK2.out; omega⟩, ⟨by (with_reducible repeat (first | apply Kd.la_ | apply Kd.ka_ | apply Kd.ma_)); exact Kd.bc_ (Kd.em_ (p := ⟨go34, ((rd l1 x56_2) : Int).toNat, none⟩) (Kd.gj_ HO_11.out GG34.out (by decide)) (fun _ hk => hk.2) (.int .i64 (Go.bits .xor .i64 (ji31) (rd t117 x56_2)))) (fun _ hk => trivial)⟩, ⟨by (with_reducible repeat (first | apply Kd.la_ | apply Kd.ka_ | apply Kd.ma_)); exact HQ37.out⟩, ⟨by repeat (first | (with_reducible first | exact HB.out | apply fa_ | apply ca_ | apply ga_ | refine qa_ ?_ GB34.out) | exact HB.out)⟩⟩
             ·rw [if_neg c33] at H
              exact absurd H (by simp)
            ·rw [if_neg c32] at H
             exact absurd H (by simp)
           ·rw [if_neg c30] at H
            exact absurd H (by simp)
          ·rw [if_neg c29] at H
           exact absurd H (by simp)
         ·rw [if_neg c28] at H
          exact absurd H (by simp)
        ·rw [if_neg c27] at H
         exact absurd H (by simp)
       ·rw [if_neg c26] at H
        have c26b0 : decide (x56_2 < (l1.length : Int)) = false := decide_eq_false c26
        clear c26
        obtain rfl := Option.some.inj H
        go_wp2
        go_ret
        exact ⟨_, by first | rfl | (simp [bb_, cb_] <;> rfl) | (simp [*, bb_, cb_] <;> rfl), by (with_reducible repeat (first | apply Kd.la_ | apply Kd.ka_ | apply Kd.ma_)); exact HO_13.out, by repeat (first | (with_reducible first | exact HB.out | apply fa_ | apply ca_ | apply ga_) | exact HB.out), fun hne hr => absurd (by obtain ⟨_, _, e1⟩ := Kd.fc_ HO123.out; obtain ⟨_, _, e2⟩ := Kd.fc_ HO_13.out; rw [e1] at e2; injection e2 with _ e3 _; rw [hr, (fp_ A22.out).1] at e3; exact List.eq_nil_of_length_eq_zero e3) hne⟩
    ·replace c21 := Bool.eq_false_iff.mpr c21
     subst c21
     have H1 : (some ([] : List Int)) = some r := by rw [if_neg (show ¬ (false = true) by decide)] at H; exact H
     clear H
     have H := H1
     clear H1
     obtain rfl := Option.some.inj H
     obtain ⟨Ao38, co38, eo38⟩ := Kd.cp_ HO_5.out
     subst eo38
     go_wp2_with (first | ((with_reducible refine ua_ (f := 63) rfl ?_); refine hc_ (some 47) rfl rfl Try.func63 (by kernel_rfl) rfl #[.slice Ao38 x5_1.length co38] rfl (by (try simp only [List.map_toArray, List.map_cons, List.map_nil]); first | done | rfl | (simp only [List.length_drop, List.length_take]; rfl)) ?_; (refine (ti_.calls w.heap.size _ _ _ x5_1 t117 false _ HO_5.out (eb_ HB.out) A20.out).mono ?_); rintro e w39 ⟨v119, rfl, ho0, hb⟩; refine ⟨_, rfl, ?_⟩; have n2_ := ba_.mk (Kd.wc_ ho0 (eb_ (by repeat (first | (with_reducible first | exact HB.out | apply fa_ | apply ca_ | apply ga_) | exact HB.out)))); have n3_ := ba_.mk (HB.out.trans hb); clear HB; have HO120 := n2_; have HB := n3_; clear n2_ n3_; (try clear hb); (try clear hb2); (try clear hk); (try clear hi); (try clear ho0)))
     go_ret
     exact ⟨_, by first | rfl | (simp [bb_, cb_] <;> rfl) | (simp [*, bb_, cb_] <;> rfl), by first | exact Kd.uf_ _ _ _ _ _ | exact Kd.mh_ _ _ _ _ _ | exact Kd.ph_ _ _ _ _ _ | exact Kd.nh_ _ _ _ _ _ | exact Kd.oh_ _ _ _ _ _, by repeat (first | (with_reducible first | exact HB.out | apply fa_ | apply ca_ | apply ga_) | exact HB.out), by intros; rfl⟩
end Go.Proofs.Ytpkhgapifnjbeaa.F
end
section
namespace Go.Proofs.Ytpkhgapifnjbeaa.F
open Go.RowKit Go.Proofs.Ytpkhgapifnjbeaa.G Go.Proofs.YtpkhgapifnjbeaaW.PrintWords Go.Proofs.YtpkhgapifnjbeaaW.PrintLast Go.Proofs.YtpkhgapifnjbeaaW.PrintMore
attribute [local go_sem] dd_ fd_ rd_ sd_ uc_ vc_ ed_ gd_
set_option linter.unusedVariables false
set_option linter.unusedSimpArgs false
end Go.Proofs.Ytpkhgapifnjbeaa.F
end
section
namespace Go.Proofs.Ytpkhgapifnjbeaa.L
open Go.RowKit Go.Proofs.Ytpkhgapifnjbeaa.G Go.Proofs.YtpkhgapifnjbeaaW.PrintWords Go.Proofs.YtpkhgapifnjbeaaW.PrintLast Go.Proofs.YtpkhgapifnjbeaaW.PrintMore
attribute [local go_sem] dd_ fd_ rd_ sd_ uc_ vc_ ed_ gd_
set_option linter.unusedVariables false
set_option linter.unusedSimpArgs false
def errW : Option Int → Value
 | none => .nilIface
 | some c => .iface 0 (.int .i64 c)
theorem bb_ : errW none = .nilIface := rfl
theorem cb_ (c : Int) : errW (some c) = .iface 0 (.int .i64 c) := rfl
theorem te_ : (Try.prog.info? 3).map (fun i => (i.zero, i.size, i.bytes)) = some (some (.int .i64 0), 1, 8) := by kernel_rfl
theorem bo_ : (Try.prog.info? 57).map (fun i => (i.zero, i.size, i.bytes)) = some (some (.int .i64 0), 1, 8) := by kernel_rfl
theorem dz_ : (Try.prog.info? 69).map (fun i => (i.zero, i.size, i.bytes)) = some (some (.slice none 0 0), 1, 24) := by kernel_rfl
def re_ (xs : List (List Int)) (i : Int) : (List Int) := xs.getD i.toNat ([] : List Int)
theorem yk_ {w : World} {A : Option Addr} {n : Nat} {xs : List (List Int)} (h : Kd.C (Kd.slice 3 (Kd.int .i64)) w A n xs) (i : Int) (h0 : 0 ≤ i) (h1 : i < n) : ∃ ad A0 c0, A = some ad ∧ w.cell? (ad.add i.toNat) = some (.slice A0 (re_ xs i).length c0) ∧ (re_ xs i).length ≤ c0 ∧ (Kd.int .i64).C w A0 (re_ xs i).length (re_ xs i) := by
 obtain ⟨ad, c, e, _, hK, hc0⟩ := Kd.ai_ h ([] : List Int) i h0 h1
 have hc : ∀ j u, c[j]? = some u → w.cell? (ad.add (i.toNat * 1 + j)) = some u := hc0
 obtain ⟨A0, c0, rfl, l0, g0⟩ := hK
 exact ⟨ad, A0, c0, e, by have hq := hc 0 _ rfl; rwa [Nat.mul_one, Nat.add_zero] at hq, l0, g0⟩
def bn_ (xs : List (List Int)) (i : Int) : (List Int) := xs.getD i.toNat ([] : List Int)
theorem at_L2 {w : World} {A : Option Addr} {n : Nat} {xs : List (List Int)} (h : Kd.C (Kd.slice 58 (Kd.int .i64)) w A n xs) (i : Int) (h0 : 0 ≤ i) (h1 : i < n) : ∃ ad A0 c0, A = some ad ∧ w.cell? (ad.add i.toNat) = some (.slice A0 (bn_ xs i).length c0) ∧ (bn_ xs i).length ≤ c0 ∧ (Kd.int .i64).C w A0 (bn_ xs i).length (bn_ xs i) := by
 obtain ⟨ad, c, e, _, hK, hc0⟩ := Kd.ai_ h ([] : List Int) i h0 h1
 have hc : ∀ j u, c[j]? = some u → w.cell? (ad.add (i.toNat * 1 + j)) = some u := hc0
 obtain ⟨A0, c0, rfl, l0, g0⟩ := hK
 exact ⟨ad, A0, c0, e, by have hq := hc 0 _ rfl; rwa [Nat.mul_one, Nat.add_zero] at hq, l0, g0⟩
def hj_ (xs : List (List Int)) (i : Int) : (List Int) := xs.getD i.toNat ([] : List Int)
theorem ta1_ {w : World} {A : Option Addr} {n : Nat} {xs : List (List Int)} (h : Kd.C (Kd.slice 57 (Kd.int .i64)) w A n xs) (i : Int) (h0 : 0 ≤ i) (h1 : i < n) : ∃ ad A0 c0, A = some ad ∧ w.cell? (ad.add i.toNat) = some (.slice A0 (hj_ xs i).length c0) ∧ (hj_ xs i).length ≤ c0 ∧ (Kd.int .i64).C w A0 (hj_ xs i).length (hj_ xs i) := by
 obtain ⟨ad, c, e, _, hK, hc0⟩ := Kd.ai_ h ([] : List Int) i h0 h1
 have hc : ∀ j u, c[j]? = some u → w.cell? (ad.add (i.toNat * 1 + j)) = some u := hc0
 obtain ⟨A0, c0, rfl, l0, g0⟩ := hK
 exact ⟨ad, A0, c0, e, by have hq := hc 0 _ rfl; rwa [Nat.mul_one, Nat.add_zero] at hq, l0, g0⟩
def qk_ (xs : List (List (List Int))) (i : Int) : (List (List Int)) := xs.getD i.toNat ([] : List (List Int))
theorem id1_ {w : World} {A : Option Addr} {n : Nat} {xs : List (List (List Int))} (h : Kd.C (Kd.slice 69 (Kd.slice 57 (Kd.int .i64))) w A n xs) (i : Int) (h0 : 0 ≤ i) (h1 : i < n) : ∃ ad A0 c0, A = some ad ∧ w.cell? (ad.add i.toNat) = some (.slice A0 (qk_ xs i).length c0) ∧ (qk_ xs i).length ≤ c0 ∧ (Kd.slice 57 (Kd.int .i64)).C w A0 (qk_ xs i).length (qk_ xs i) := by
 obtain ⟨ad, c, e, _, hK, hc0⟩ := Kd.ai_ h ([] : List (List Int)) i h0 h1
 have hc : ∀ j u, c[j]? = some u → w.cell? (ad.add (i.toNat * 1 + j)) = some u := hc0
 obtain ⟨A0, c0, rfl, l0, g0⟩ := hK
 exact ⟨ad, A0, c0, e, by have hq := hc 0 _ rfl; rwa [Nat.mul_one, Nat.add_zero] at hq, l0, g0⟩
end Go.Proofs.Ytpkhgapifnjbeaa.L
end
section
namespace Go.Proofs.Ytpkhgapifnjbeaa.L
open Go.RowKit Go.Proofs.Ytpkhgapifnjbeaa.G Go.Proofs.YtpkhgapifnjbeaaW.PrintWords Go.Proofs.YtpkhgapifnjbeaaW.PrintLast Go.Proofs.YtpkhgapifnjbeaaW.PrintMore
attribute [local go_sem] dd_ fd_ rd_ sd_ uc_ vc_ ed_ gd_
set_option linter.unusedVariables false
set_option linter.unusedSimpArgs false
def bd_.f (a0 : Int) : Option (Int) := if (wrap64 (a0 * 2)) ≥ 32 then (some (Go.bits .xor .i64 (wrap64 (a0 * 2)) 37)) else (some (wrap64 (a0 * 2)))
set_option maxHeartbeats 8000000 in
set_option maxRecDepth 100000 in
theorem bd_.calls (a0 : Int) (r : Int) (w : World) (h : bd_.f a0 = some r) :
  Calls Try.prog 41 #[.int .i64 a0] w fun e w' => e = .returned (.int .i64 r) ∧ ra_ w w' := by
 have H : (if (wrap64 (a0 * 2)) ≥ 32 then (some (Go.bits .xor .i64 (wrap64 (a0 * 2)) 37)) else (some (wrap64 (a0 * 2)))) = some r := h
 clear h
 by_cases c2 : (wrap64 (a0 * 2)) ≥ 32
 ·rw [if_pos c2] at H
  have c2b0 : decide (32 ≤ (wrap64 (a0 * 2))) = true := decide_eq_true c2
  clear c2
  obtain rfl := Option.some.inj H
  go_enter Try.func41, Try.ntmps41
  go_wp2
  go_ret
  exact ⟨by first | rfl | (simp; done) | (simp [*]; done), by repeat (first | exact ra_.refl _ | apply ra_.step)⟩
 ·rw [if_neg c2] at H
  have c2b0 : decide (32 ≤ (wrap64 (a0 * 2))) = false := decide_eq_false c2
  clear c2
  obtain rfl := Option.some.inj H
  go_enter Try.func41, Try.ntmps41
  go_wp2
  go_ret
  exact ⟨by first | rfl | (simp; done) | (simp [*]; done), by repeat (first | exact ra_.refl _ | apply ra_.step)⟩
def kd_.f (a0 : Int) : Option (Bool) := if a0 ≥ 0 then (some (decide (a0 < 32))) else (some false)
set_option maxHeartbeats 8000000 in
set_option maxRecDepth 100000 in
theorem kd_.calls (a0 : Int) (r : Bool) (w : World) (h : kd_.f a0 = some r) :
  Calls Try.prog 38 #[.int .i64 a0] w fun e w' => e = .returned (.bool r) ∧ ra_ w w' := by
 have H : (if a0 ≥ 0 then (some (decide (a0 < 32))) else (some false)) = some r := h
 clear h
 by_cases c2 : a0 ≥ 0
 ·rw [if_pos c2] at H
  have c2b0 : decide (0 ≤ a0) = true := decide_eq_true c2
  clear c2
  obtain rfl := Option.some.inj H
  go_enter Try.func38, Try.ntmps38
  go_wp2
  go_ret
  exact ⟨by first | rfl | (simp; done) | (simp [*]; done), by repeat (first | exact ra_.refl _ | apply ra_.step)⟩
 ·rw [if_neg c2] at H
  have c2b0 : decide (0 ≤ a0) = false := decide_eq_false c2
  clear c2
  obtain rfl := Option.some.inj H
  go_enter Try.func38, Try.ntmps38
  go_wp2
  go_ret
  exact ⟨by first | rfl | (simp; done) | (simp [*]; done), by repeat (first | exact ra_.refl _ | apply ra_.step)⟩
def mb_.l0 : Nat → Int → Int → Int → Option (Int)
 | 0, _, _, _ => none
 | k + 1, x0, x3, x5 => if x5 < 31 then (if x3 = x0 then (some x5) else ((bd_.f x3).bind fun t101 => (mb_.l0 k x0 t101 (wrap64 (x5 + 1))))) else (some 0)
def mb_.f (k : Nat) (a0 : Int) : Option (Int) := mb_.l0 k a0 1 0
theorem mb_.xc_ : ∀ k, (∀ y0 y1 y2, LeO (mb_.l0 k y0 y1 y2) (mb_.l0 (k + 1) y0 y1 y2))
 | 0 => fun _ _ _ r h => by simp [mb_.l0] at h
 | k + 1 => by
  have ih0 := mb_.xc_ k
  ·intro y0 y1 y2
   unfold mb_.l0
   repeat' first
   | (with_reducible exact ih0 _ _ _)
   | (with_reducible exact LeO.refl _)
   | (with_reducible exact LeO.none _)
   | (with_reducible refine LeO.ite ?_ ?_)
   | (with_reducible refine LeO.bind ?_ (fun _ => ?_))
   | exact ih0 _ _ _
   | exact LeO.none _
   | refine LeO.ite ?_ ?_
   | refine LeO.bind ?_ (fun _ => ?_)
theorem mb_.mono : ∀ a0 k, LeO (mb_.f k a0) (mb_.f (k + 1) a0) := by
 intro a0 k
 have ih0 := mb_.xc_ k
 unfold mb_.f
 repeat' first
   | (with_reducible exact ih0 _ _ _)
   | (with_reducible exact LeO.refl _)
   | (with_reducible exact LeO.none _)
   | (with_reducible refine LeO.ite ?_ ?_)
   | (with_reducible refine LeO.bind ?_ (fun _ => ?_))
   | exact ih0 _ _ _
   | exact LeO.none _
   | refine LeO.ite ?_ ?_
   | refine LeO.bind ?_ (fun _ => ?_)
set_option maxHeartbeats 8000000 in
set_option maxRecDepth 100000 in
theorem mb_.calls (k : Nat) (a0 : Int) (r : Int) (w : World) (h : mb_.f k a0 = some r) :
  Calls Try.prog 39 #[.int .i64 a0] w fun e w' => e = .returned (.int .i64 r) ∧ ra_ w w' := by
 have H : (mb_.l0 k a0 1 0) = some r := h
 clear h
 have H' := ba_.mk H
 clear H
 go_enter Try.func39, Try.ntmps39
 go_wp2
 go_loopg [3, 5] k (fun kq v3 v5 w' => ∃ (x3_1 : Int) (x5_1 : Int), v3 = .int .i64 x3_1 ∧ v5 = .int .i64 x5_1 ∧ ba_ (mb_.l0 kq a0 x3_1 x5_1 = some r) ∧ ba_ (kq ≤ k) ∧ ra_ w w')
 case atStart => exact ⟨(1), (0), (by first | rfl | (simp; done) | (simp [*]; done)), (by first | rfl | (simp; done) | (simp [*]; done)), H', ⟨Nat.le_refl _⟩, by repeat (first | exact ra_.refl _ | apply ra_.step)⟩
 case round =>
  clear H'
  obtain ⟨x3_1, x5_1, rfl, rfl, HA, HK1, ⟨m1, rfl⟩⟩ := hrel
  cases gk with
  | zero => exact absurd HA.out (by simp [mb_.l0])
  | succ k1 =>
   have H := HA.out
   clear HA
   simp only [mb_.l0] at H
   by_cases c2 : x5_1 < 31
   ·rw [if_pos c2] at H
    have c2b0 : decide (x5_1 < 31) = true := decide_eq_true c2
    clear c2
    by_cases c3 : x3_1 = a0
    ·rw [if_pos c3] at H
     have c3b0 : (x3_1 == a0) = true := beq_iff_eq.mpr c3
     have c3b1 : (x3_1 != a0) = false := bne_eq_false_iff_eq.mpr c3
     clear c3
     obtain rfl := Option.some.inj H
     go_wp2
     go_ret
     exact ⟨by first | rfl | (simp; done) | (simp [*]; done), by repeat (first | exact ra_.refl _ | apply ra_.step)⟩
    ·rw [if_neg c3] at H
     have c3b0 : (x3_1 == a0) = false := beq_eq_false_iff_ne.mpr c3
     have c3b1 : (x3_1 != a0) = true := bne_iff_ne.mpr c3
     replace H := Option.bind_eq_some_iff.mp H
     obtain ⟨t101, A40, H⟩ := H
     replace H : (mb_.l0 k1 a0 t101 (wrap64 (x5_1 + 1))) = some r := H
     have A4 := ba_.mk A40
     clear A40
     have H' := ba_.mk H
     clear H
     go_wp2_with (first | ((with_reducible refine ua_ (f := 41) rfl ?_); refine hc_ (some 13) rfl rfl Try.func41 (by kernel_rfl) rfl #[.int .i64 x3_1] rfl (by (try simp only [List.map_toArray, List.map_cons, List.map_nil]); first | done | rfl | (simp only [List.length_drop, List.length_take]; rfl)) ?_; (with_reducible refine (bd_.calls x3_1 t101 _ A4.out).mono ?_); rintro e w' ⟨rfl, ⟨nd, rfl⟩⟩; refine ⟨_, rfl, ?_⟩))
     go_roundg k1
     case measure => have := HK1.out; omega
     case rel => exact ⟨(t101), (wrap64 (x5_1 + 1)), (by first | rfl | (simp; done) | (simp [*]; done)), (by first | rfl | (simp; done) | (simp [*]; done)), H', ⟨by have := HK1.out; omega⟩, by repeat (first | exact ra_.refl _ | apply ra_.step)⟩
   ·rw [if_neg c2] at H
    have c2b0 : decide (x5_1 < 31) = false := decide_eq_false c2
    clear c2
    obtain rfl := Option.some.inj H
    go_wp2
    go_ret
    exact ⟨by first | rfl | (simp; done) | (simp [*]; done), by repeat (first | exact ra_.refl _ | apply ra_.step)⟩
end Go.Proofs.Ytpkhgapifnjbeaa.L
end
