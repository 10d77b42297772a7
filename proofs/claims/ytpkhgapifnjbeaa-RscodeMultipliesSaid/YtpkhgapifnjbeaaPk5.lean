/- A part of the proof of one statement (texts put together by pack.py of this claim's repo). -/
import Derived.Test.YtpkhgapifnjbeaaProg
import Derived.Below
import Derived.Deep.Draws
import Derived.Deep.AppendLies
import Derived.Maps.AppendAt
import Derived.OwnWalk
import Derived.Laws.BytesArg
import Derived.Laws.MakeOwn
import Derived.Laws.OwnMore
import Derived.Deep.OwnRows
import Derived.Tactics
import Derived.Lib.ConvBytes
import Derived.Laws.Slices
import Derived.WalkKit
import Derived.KernelRfl
import Derived.RowKit3
import Derived.Deep.LoopGhost
import Derived.Deep.QuietTactic
import Derived.BigQuiet
import Derived.WideLaws
import Derived.Deep.DeepCutAuto
import Derived.Deep.CutBlock
import Derived.Deep.RegionHeld3
import Derived.Laws.Rows
import Derived.Lib.AppendStr
import Derived.ArgAppend
import Derived.Laws.IdiomCopy
import Derived.OrdersHeld
import Derived.Laws.BitsLemmas
import Derived.RowKit
import Derived.WalkSpells
import Derived.Test.YtpkhgapifnjbeaaPk4
section
namespace Go.Proofs.Ytpkhgapifnjbeaa.U
open Go.RowKit Go.Proofs.Ytpkhgapifnjbeaa.G Go.Proofs.Ytpkhgapifnjbeaa.Rs Go.Proofs.YtpkhgapifnjbeaaW.PrintWords Go.Proofs.YtpkhgapifnjbeaaW.PrintLast Go.Proofs.YtpkhgapifnjbeaaW.PrintMore
attribute [local go_sem] max2_int min2_int max_two min_two max_three min_three max_four min_four
set_option linter.unusedVariables false
set_option linter.unusedSimpArgs false
def awardingbodyref18_Errors.l0 : Nat → List Int → List Int → Int → Int → Option (Int)
  | 0, _, _, _, _ => none
  | k + 1, x0, x1, x5, x6 => if x6 < (x0.length : Int) then (if 0 ≤ x6 then (if (rd x0 x6) ≥ 0 then (if x6 < (x1.length : Int) then (if (rd x0 x6) = (rd x1 x6) then (awardingbodyref18_Errors.l0 k x0 x1 x5 (wrap64 (x6 + 1))) else (awardingbodyref18_Errors.l0 k x0 x1 (wrap64 (x5 + 1)) (wrap64 (x6 + 1)))) else (none)) else (awardingbodyref18_Errors.l0 k x0 x1 x5 (wrap64 (x6 + 1)))) else (none)) else (some x5)
def awardingbodyref18_Errors.f (k : Nat) (l0 : List Int) (l1 : List Int) : Option (Int) := awardingbodyref18_Errors.l0 k l0 l1 0 0
theorem awardingbodyref18_Errors.mono_l : ∀ k, (∀ y0 y1 y2 y3, LeO (awardingbodyref18_Errors.l0 k y0 y1 y2 y3) (awardingbodyref18_Errors.l0 (k + 1) y0 y1 y2 y3))
  | 0 => fun _ _ _ _ r h => by simp [awardingbodyref18_Errors.l0] at h
  | k + 1 => by
    have ih0 := awardingbodyref18_Errors.mono_l k
    · intro y0 y1 y2 y3
      unfold awardingbodyref18_Errors.l0
      repeat' first
      | (with_reducible exact ih0 _ _ _ _)
      | (with_reducible exact LeO.refl _)
      | (with_reducible exact LeO.none _)
      | (with_reducible refine LeO.ite ?_ ?_)
      | (with_reducible refine LeO.bind ?_ (fun _ => ?_))
      | exact ih0 _ _ _ _
      | exact LeO.none _
      | refine LeO.ite ?_ ?_
      | refine LeO.bind ?_ (fun _ => ?_)
theorem awardingbodyref18_Errors.mono : ∀ a0 a1 k, LeO (awardingbodyref18_Errors.f k a0 a1) (awardingbodyref18_Errors.f (k + 1) a0 a1) := by
  intro a0 a1 k
  have ih0 := awardingbodyref18_Errors.mono_l k
  unfold awardingbodyref18_Errors.f
  repeat' first
      | (with_reducible exact ih0 _ _ _ _)
      | (with_reducible exact LeO.refl _)
      | (with_reducible exact LeO.none _)
      | (with_reducible refine LeO.ite ?_ ?_)
      | (with_reducible refine LeO.bind ?_ (fun _ => ?_))
      | exact ih0 _ _ _ _
      | exact LeO.none _
      | refine LeO.ite ?_ ?_
      | refine LeO.bind ?_ (fun _ => ?_)
set_option maxHeartbeats 8000000 in
set_option maxRecDepth 100000 in
theorem awardingbodyref18_Errors.calls (k : Nat) (A0 : Option Addr) (c0 : Nat) (l0 : List Int) (A1 : Option Addr) (c1 : Nat) (l1 : List Int) (r : Int) (w : World) (hr0 : Kd.C (Kd.int .i64) w A0 l0.length l0) (hc0 : l0.length ≤ c0) (hr1 : Kd.C (Kd.int .i64) w A1 l1.length l1) (hc1 : l1.length ≤ c1) (h : awardingbodyref18_Errors.f k l0 l1 = some r) :
    Calls Try.prog 56 #[.slice A0 l0.length c0, .slice A1 l1.length c1] w fun e w' => e = .returned (.int .i64 r) ∧ Drawn0 w w' := by
  have HR0 := Aside0.mk hr0
  have HC0 := Aside0.mk hc0
  clear hr0 hc0
  have HR1 := Aside0.mk hr1
  have HC1 := Aside0.mk hc1
  clear hr1 hc1
  have H : (awardingbodyref18_Errors.l0 k l0 l1 0 0) = some r := h
  clear h
  have H' := Aside0.mk H
  clear H
  go_enter Try.func56, Try.ntmps56
  go_wp2
  repeat (go_quiet (fail); try go_wp2)
  go_loopg [5, 6] k (fun kq v5 v6 w' => ∃ (x5_1 : Int) (x6_1 : Int), v5 = .int .i64 x5_1 ∧ v6 = .int .i64 x6_1 ∧ Aside0 (awardingbodyref18_Errors.l0 kq l0 l1 x5_1 x6_1 = some r) ∧ Aside0 (kq ≤ k) ∧ Drawn0 w w')
  case atStart => exact ⟨(0), (0), (by first | rfl | (simp; done) | (simp [*]; done)), (by first | rfl | (simp; done) | (simp [*]; done)), H', ⟨Nat.le_refl _⟩, by repeat (first | exact Drawn0.refl _ | apply Drawn0.step)⟩
  case round =>
    clear H'
    try clear c1
    try clear p2
    obtain ⟨x5_1, x6_1, rfl, rfl, HA, HK1, ⟨m1, rfl⟩⟩ := hrel
    cases gk with
    | zero => exact absurd HA.out (by simp [awardingbodyref18_Errors.l0])
    | succ k1 =>
      have H := HA.out
      clear HA
      simp only [awardingbodyref18_Errors.l0] at H
      by_cases c3 : x6_1 < (l0.length : Int)
      · rw [if_pos c3] at H
        have c3b0 : decide (x6_1 < (l0.length : Int)) = true := decide_eq_true c3
        clear c3
        by_cases c4 : 0 ≤ x6_1
        · rw [if_pos c4] at H
          have c4b0 : decide (0 ≤ x6_1) = true := decide_eq_true c4
          clear c4
          by_cases c5 : (rd l0 x6_1) ≥ 0
          · rw [if_pos c5] at H
            have c5b0 : decide (0 ≤ (rd l0 x6_1)) = true := decide_eq_true c5
            clear c5
            by_cases c6 : x6_1 < (l1.length : Int)
            · rw [if_pos c6] at H
              have c6b0 : decide (x6_1 < (l1.length : Int)) = true := decide_eq_true c6
              clear c6
              by_cases c7 : (rd l0 x6_1) = (rd l1 x6_1)
              · rw [if_pos c7] at H
                have c7b0 : ((rd l0 x6_1) == (rd l1 x6_1)) = true := beq_iff_eq.mpr c7
                have c7b1 : ((rd l0 x6_1) != (rd l1 x6_1)) = false := bne_eq_false_iff_eq.mpr c7
                clear c7
                have H' := Aside0.mk H
                clear H
                have p101 : 0 ≤ (x6_1 : Int) := of_decide_eq_true (by first | (with_reducible assumption) | assumption)
                have q101 : x6_1 < (l0.length : Int) := of_decide_eq_true (by first | (with_reducible assumption) | assumption)
                obtain ⟨ad101, e101, hx101_0⟩ := Kd.at_int HR0.out x6_1 p101 q101
                cases e101
                replace p101 := eq_true p101
                replace q101 := eq_true q101
                have p102 : 0 ≤ (x6_1 : Int) := of_decide_eq_true (by first | (with_reducible assumption) | assumption)
                have q102 : x6_1 < (l0.length : Int) := of_decide_eq_true (by first | (with_reducible assumption) | assumption)
                obtain ⟨ad102, e102, hx102_0⟩ := Kd.at_int HR0.out x6_1 p102 q102
                obtain rfl : ad101 = ad102 := (by injection e102)
                replace p102 := eq_true p102
                replace q102 := eq_true q102
                have p103 : 0 ≤ (x6_1 : Int) := of_decide_eq_true (by first | (with_reducible assumption) | assumption)
                have q103 : x6_1 < (l1.length : Int) := of_decide_eq_true (by first | (with_reducible assumption) | assumption)
                obtain ⟨ad103, e103, hx103_0⟩ := Kd.at_int HR1.out x6_1 p103 q103
                cases e103
                replace p103 := eq_true p103
                replace q103 := eq_true q103
                go_wp2
                repeat (go_quiet (fail); try go_wp2)
                go_roundg k1
                case measure => have := HK1.out; omega
                case rel => exact ⟨(x5_1), (wrap64 (x6_1 + 1)), (by first | rfl | (simp; done) | (simp [*]; done)), (by first | rfl | (simp; done) | (simp [*]; done)), H', ⟨by have := HK1.out; omega⟩, by repeat (first | exact Drawn0.refl _ | apply Drawn0.step)⟩
              · rw [if_neg c7] at H
                have c7b0 : ((rd l0 x6_1) == (rd l1 x6_1)) = false := beq_eq_false_iff_ne.mpr c7
                have c7b1 : ((rd l0 x6_1) != (rd l1 x6_1)) = true := bne_iff_ne.mpr c7
                have H' := Aside0.mk H
                clear H
                have p101 : 0 ≤ (x6_1 : Int) := of_decide_eq_true (by first | (with_reducible assumption) | assumption)
                have q101 : x6_1 < (l0.length : Int) := of_decide_eq_true (by first | (with_reducible assumption) | assumption)
                obtain ⟨ad101, e101, hx101_0⟩ := Kd.at_int HR0.out x6_1 p101 q101
                cases e101
                replace p101 := eq_true p101
                replace q101 := eq_true q101
                have p102 : 0 ≤ (x6_1 : Int) := of_decide_eq_true (by first | (with_reducible assumption) | assumption)
                have q102 : x6_1 < (l0.length : Int) := of_decide_eq_true (by first | (with_reducible assumption) | assumption)
                obtain ⟨ad102, e102, hx102_0⟩ := Kd.at_int HR0.out x6_1 p102 q102
                obtain rfl : ad101 = ad102 := (by injection e102)
                replace p102 := eq_true p102
                replace q102 := eq_true q102
                have p103 : 0 ≤ (x6_1 : Int) := of_decide_eq_true (by first | (with_reducible assumption) | assumption)
                have q103 : x6_1 < (l1.length : Int) := of_decide_eq_true (by first | (with_reducible assumption) | assumption)
                obtain ⟨ad103, e103, hx103_0⟩ := Kd.at_int HR1.out x6_1 p103 q103
                cases e103
                replace p103 := eq_true p103
                replace q103 := eq_true q103
                go_wp2
                repeat (go_quiet (fail); try go_wp2)
                go_roundg k1
                case measure => have := HK1.out; omega
                case rel => exact ⟨(wrap64 (x5_1 + 1)), (wrap64 (x6_1 + 1)), (by first | rfl | (simp; done) | (simp [*]; done)), (by first | rfl | (simp; done) | (simp [*]; done)), H', ⟨by have := HK1.out; omega⟩, by repeat (first | exact Drawn0.refl _ | apply Drawn0.step)⟩
            · rw [if_neg c6] at H
              exact absurd H (by simp)
          · rw [if_neg c5] at H
            have c5b0 : decide (0 ≤ (rd l0 x6_1)) = false := decide_eq_false c5
            clear c5
            have H' := Aside0.mk H
            clear H
            have p101 : 0 ≤ (x6_1 : Int) := of_decide_eq_true (by first | (with_reducible assumption) | assumption)
            have q101 : x6_1 < (l0.length : Int) := of_decide_eq_true (by first | (with_reducible assumption) | assumption)
            obtain ⟨ad101, e101, hx101_0⟩ := Kd.at_int HR0.out x6_1 p101 q101
            cases e101
            replace p101 := eq_true p101
            replace q101 := eq_true q101
            go_wp2
            repeat (go_quiet (fail); try go_wp2)
            go_roundg k1
            case measure => have := HK1.out; omega
            case rel => exact ⟨(x5_1), (wrap64 (x6_1 + 1)), (by first | rfl | (simp; done) | (simp [*]; done)), (by first | rfl | (simp; done) | (simp [*]; done)), H', ⟨by have := HK1.out; omega⟩, by repeat (first | exact Drawn0.refl _ | apply Drawn0.step)⟩
        · rw [if_neg c4] at H
          exact absurd H (by simp)
      · rw [if_neg c3] at H
        have c3b0 : decide (x6_1 < (l0.length : Int)) = false := decide_eq_false c3
        clear c3
        obtain rfl := Option.some.inj H
        go_wp2
        repeat (go_quiet (fail); try go_wp2)
        go_ret
        exact ⟨by first | rfl | (simp; done) | (simp [*]; done), by repeat (first | exact Drawn0.refl _ | apply Drawn0.step)⟩
def awardingbodyref18_Erased.l0 : Nat → List Int → List Int → Int → Option (List Int)
  | 0, _, _, _ => none
  | k + 1, x0, x3, x4 => if x4 < (x0.length : Int) then (if 0 ≤ x4 then (if (rd x0 x4) < 0 then (if x3.length < 17592186044416 then (awardingbodyref18_Erased.l0 k x0 (x3 ++ [x4]) (wrap64 (x4 + 1))) else (none)) else (awardingbodyref18_Erased.l0 k x0 x3 (wrap64 (x4 + 1)))) else (none)) else (some x3)
def awardingbodyref18_Erased.f (k : Nat) (l0 : List Int) : Option (List Int) := awardingbodyref18_Erased.l0 k l0 ([] : List Int) 0
theorem awardingbodyref18_Erased.mono_l : ∀ k, (∀ y0 y1 y2, LeO (awardingbodyref18_Erased.l0 k y0 y1 y2) (awardingbodyref18_Erased.l0 (k + 1) y0 y1 y2))
  | 0 => fun _ _ _ r h => by simp [awardingbodyref18_Erased.l0] at h
  | k + 1 => by
    have ih0 := awardingbodyref18_Erased.mono_l k
    · intro y0 y1 y2
      unfold awardingbodyref18_Erased.l0
      repeat' first
      | (with_reducible exact ih0 _ _ _)
      | (with_reducible exact LeO.refl _)
      | (with_reducible exact LeO.none _)
      | (with_reducible refine LeO.ite ?_ ?_)
      | (with_reducible refine LeO.bind ?_ (fun _ => ?_))
      | exact ih0 _ _ _
      | exact LeO.none _
      | refine LeO.ite ?_ ?_
      | refine LeO.bind ?_ (fun _ => ?_)
theorem awardingbodyref18_Erased.mono : ∀ a0 k, LeO (awardingbodyref18_Erased.f k a0) (awardingbodyref18_Erased.f (k + 1) a0) := by
  intro a0 k
  have ih0 := awardingbodyref18_Erased.mono_l k
  unfold awardingbodyref18_Erased.f
  repeat' first
      | (with_reducible exact ih0 _ _ _)
      | (with_reducible exact LeO.refl _)
      | (with_reducible exact LeO.none _)
      | (with_reducible refine LeO.ite ?_ ?_)
      | (with_reducible refine LeO.bind ?_ (fun _ => ?_))
      | exact ih0 _ _ _
      | exact LeO.none _
      | refine LeO.ite ?_ ?_
      | refine LeO.bind ?_ (fun _ => ?_)
set_option maxHeartbeats 8000000 in
set_option maxRecDepth 100000 in
theorem awardingbodyref18_Erased.calls (k : Nat) (A0 : Option Addr) (c0 : Nat) (l0 : List Int) (r : List Int) (w : World) (hr0 : Kd.C (Kd.int .i64) w A0 l0.length l0) (hc0 : l0.length ≤ c0) (h : awardingbodyref18_Erased.f k l0 = some r) :
    Calls Try.prog 54 #[.slice A0 l0.length c0] w fun e w' => ∃ v0_ : Value, e = .returned (v0_) ∧ Kd.R (Kd.int .i64) 3 w' w.heap.size (fun _ => True) v0_ r ∧ Below w.heap.size w w' := by
  have HR0 := Aside0.mk hr0
  have HC0 := Aside0.mk hc0
  clear hr0 hc0
  have HB := Aside0.mk (Below.refl w.heap.size w)
  have H : (awardingbodyref18_Erased.l0 k l0 ([] : List Int) 0) = some r := h
  clear h
  have H' := Aside0.mk H
  clear H
  go_enter Try.func54, Try.ntmps54
  go_wp2
  go_loopg [3, 4] k (fun kq v3 v4 w' => ∃ (x3_1 : List Int) (x4_1 : Int), v4 = .int .i64 x4_1 ∧ Aside0 (awardingbodyref18_Erased.l0 kq l0 x3_1 x4_1 = some r) ∧ Aside0 (kq ≤ k) ∧ Aside0 (Kd.R (Kd.int .i64) 3 w' w.heap.size (fun _ => True) v3 x3_1) ∧ Aside0 (Below w.heap.size w w'))
  case atStart => exact ⟨(([] : List Int)), (0), (by first | rfl | (simp; done) | (simp [*]; done)), H', ⟨Nat.le_refl _⟩, ⟨by first | exact Kd.R_nil _ _ _ _ _ | exact Kd.N_nil _ _ _ _ _ | exact Kd.V_nil _ _ _ _ _ | exact Kd.Q_nil _ _ _ _ _ | exact Kd.S_nil _ _ _ _ _⟩, ⟨by repeat (first | (with_reducible first | exact HB.out | apply below_alloc | apply pw_below_drewN | apply below_drew1) | exact HB.out)⟩⟩
  case round =>
    clear H'
    obtain ⟨x3_1, x4_1, rfl, HA, HK1, HO_3, HB⟩ := hrel
    cases gk with
    | zero => exact absurd HA.out (by simp [awardingbodyref18_Erased.l0])
    | succ k1 =>
      have H := HA.out
      clear HA
      simp only [awardingbodyref18_Erased.l0] at H
      by_cases c2 : x4_1 < (l0.length : Int)
      · rw [if_pos c2] at H
        have c2b0 : decide (x4_1 < (l0.length : Int)) = true := decide_eq_true c2
        clear c2
        by_cases c3 : 0 ≤ x4_1
        · rw [if_pos c3] at H
          have c3b0 : decide (0 ≤ x4_1) = true := decide_eq_true c3
          clear c3
          by_cases c4 : (rd l0 x4_1) < 0
          · rw [if_pos c4] at H
            have c4b0 : decide ((rd l0 x4_1) < 0) = true := decide_eq_true c4
            clear c4
            by_cases c5 : x3_1.length < 17592186044416
            · rw [if_pos c5] at H
              have LMc5 := Aside0.mk c5
              clear c5
              obtain ⟨y105, hy105⟩ : ∃ y_ : List Int, y_ = (x3_1 ++ [x4_1]) := ⟨_, rfl⟩
              replace H : (awardingbodyref18_Erased.l0 k1 l0 y105 (wrap64 (x4_1 + 1))) = some r := by first | (rw [hy105]; with_reducible exact H) | (have H2_ := (Option.bind_some _ _).symm.trans H; rw [hy105]; with_reducible exact H2_) | (have H2_ := (Option.bind_some _ _).symm.trans H; with_reducible exact H2_) | with_reducible exact H | (rw [hy105]; exact H) | exact H
              have Ny105 := Aside0.mk hy105
              clear hy105
              have H' := Aside0.mk H
              clear H
              have p104 : 0 ≤ (x4_1 : Int) := of_decide_eq_true (by first | (with_reducible assumption) | assumption)
              have q104 : x4_1 < (l0.length : Int) := of_decide_eq_true (by first | (with_reducible assumption) | assumption)
              obtain ⟨ad104, e104, hx104_0⟩ := Kd.at_int HR0.out x4_1 p104 q104
              cases e104
              replace hx104_0 := (HB.out.cell (World.block_lt_of_cell? w _ hx104_0)).trans hx104_0
              replace p104 := eq_true p104
              replace q104 := eq_true q104
              go_wp2_with (first | ((with_reducible refine gate_builtin (b := .append) (xs := #[.tmp 16, .tmp 18]) rfl ?_); at_builtin; refine Kd.R_append (Kd.int .i64) (w0 := w) w.heap.size rfl (.tmp 16) (.tmp 18) 27 3 (.int .i64 0) 8 rfl Try.underlying27 info3 rfl (by decide) (by omega) u3 x3_1 x4_1 [.int .i64 x4_1] (fun _ => True) (fun _ => False) rfl rfl ?aP (fun _ hk => hk.elim) ?aF ?aO ?aB ?aS ?aL ?_; (case aP => exact rfl); (case aB => exact (by repeat (first | (with_reducible first | exact HB.out | apply below_alloc | apply pw_below_drewN | apply below_drew1) | exact HB.out))); (case aF => exact (fun _ _ => trivial)); (case aO => exact (by (with_reducible repeat (first | apply Kd.R_alloc | apply Kd.R_drewN | apply Kd.R_drew)); exact HO_3.out)); (case aS => exact (below_size (by repeat (first | (with_reducible first | exact HB.out | apply below_alloc | apply pw_below_drewN | apply below_drew1) | exact HB.out)))); (case aL => have := LMc5.out; omega); intro v106 w6 ho hb hg hat; rw [← Ny105.out] at ho; have n0_ := Aside0.mk (hb); have n1_ := Aside0.mk (ho); clear HB; clear HO_3; have HB := n0_; have HO107 := n1_; clear n0_ n1_; clear ho hb hg hat))
              go_roundg k1
              case measure => have := HK1.out; omega
              case rel => exact ⟨(y105), (wrap64 (x4_1 + 1)), (by first | rfl | (simp; done) | (simp [*]; done)), H', ⟨by have := HK1.out; omega⟩, ⟨by (with_reducible repeat (first | apply Kd.R_alloc | apply Kd.R_drewN | apply Kd.R_drew)); exact HO107.out⟩, ⟨by repeat (first | (with_reducible first | exact HB.out | apply below_alloc | apply pw_below_drewN | apply below_drew1) | exact HB.out)⟩⟩
            · rw [if_neg c5] at H
              exact absurd H (by simp)
          · rw [if_neg c4] at H
            have c4b0 : decide ((rd l0 x4_1) < 0) = false := decide_eq_false c4
            clear c4
            have H' := Aside0.mk H
            clear H
            have p104 : 0 ≤ (x4_1 : Int) := of_decide_eq_true (by first | (with_reducible assumption) | assumption)
            have q104 : x4_1 < (l0.length : Int) := of_decide_eq_true (by first | (with_reducible assumption) | assumption)
            obtain ⟨ad104, e104, hx104_0⟩ := Kd.at_int HR0.out x4_1 p104 q104
            cases e104
            replace hx104_0 := (HB.out.cell (World.block_lt_of_cell? w _ hx104_0)).trans hx104_0
            replace p104 := eq_true p104
            replace q104 := eq_true q104
            go_wp2
            go_roundg k1
            case measure => have := HK1.out; omega
            case rel => exact ⟨(x3_1), (wrap64 (x4_1 + 1)), (by first | rfl | (simp; done) | (simp [*]; done)), H', ⟨by have := HK1.out; omega⟩, ⟨by (with_reducible repeat (first | apply Kd.R_alloc | apply Kd.R_drewN | apply Kd.R_drew)); exact HO_3.out⟩, ⟨by repeat (first | (with_reducible first | exact HB.out | apply below_alloc | apply pw_below_drewN | apply below_drew1) | exact HB.out)⟩⟩
        · rw [if_neg c3] at H
          exact absurd H (by simp)
      · rw [if_neg c2] at H
        have c2b0 : decide (x4_1 < (l0.length : Int)) = false := decide_eq_false c2
        clear c2
        obtain rfl := Option.some.inj H
        go_wp2
        go_ret
        exact ⟨_, by first | rfl | (simp [errW_none, errW_some] <;> rfl) | (simp [*, errW_none, errW_some] <;> rfl), by (with_reducible repeat (first | apply Kd.R_alloc | apply Kd.R_drewN | apply Kd.R_drew)); exact HO_3.out, by repeat (first | (with_reducible first | exact HB.out | apply below_alloc | apply pw_below_drewN | apply below_drew1) | exact HB.out)⟩
end Go.Proofs.Ytpkhgapifnjbeaa.U
end
section
namespace Go.Proofs.Ytpkhgapifnjbeaa.U
open Go.RowKit Go.Proofs.Ytpkhgapifnjbeaa.G Go.Proofs.Ytpkhgapifnjbeaa.Rs Go.Proofs.YtpkhgapifnjbeaaW.PrintWords Go.Proofs.YtpkhgapifnjbeaaW.PrintLast Go.Proofs.YtpkhgapifnjbeaaW.PrintMore
attribute [local go_sem] max2_int min2_int max_two min_two max_three min_three max_four min_four
set_option linter.unusedVariables false
set_option linter.unusedSimpArgs false
end Go.Proofs.Ytpkhgapifnjbeaa.U
end
section
namespace Go.Proofs.Ytpkhgapifnjbeaa.G
set_option linter.unusedVariables false
set_option linter.unusedSimpArgs false
open Go.RowKit Go.Proofs.YtpkhgapifnjbeaaW.PrintWords Go.Proofs.YtpkhgapifnjbeaaW.PrintLast Go.Proofs.YtpkhgapifnjbeaaW.PrintMore Go.Proofs.Ytpkhgapifnjbeaa.Rs Go.Proofs.Ytpkhgapifnjbeaa.U
def errN (w c : List Int) : Nat → Nat
  | 0 => 0
  | m + 1 => errN w c m + if 0 ≤ w.getD m 0 ∧ w.getD m 0 ≠ c.getD m 0 then 1 else 0
theorem errN_le (w c : List Int) (m : Nat) : errN w c m ≤ m := by
  induction m with
  | zero => exact Nat.le_refl _
  | succ m ih => simp only [errN]; split <;> omega
def eraN (w : List Int) : Nat → List Int
  | 0 => []
  | m + 1 => eraN w m ++ if w.getD m 0 < 0 then [(m : Int)] else []
theorem eraN_le (w : List Int) (m : Nat) : (eraN w m).length ≤ m := by
  induction m with
  | zero => exact Nat.le_refl _
  | succ m ih => simp only [eraN, List.length_append]; split <;> simp <;> omega
theorem err_l0 (w c : List Int) (hl : w.length ≤ 1000) (hc : w.length ≤ c.length) : ∀ (d i k : Nat), i + d = w.length → d < k → awardingbodyref18_Errors.l0 k w c ((errN w c i : Nat) : Int) (i : Int) = some ((errN w c w.length : Nat) : Int) := by
  intro d
  induction d with
  | zero =>
    intro i k hi hk
    obtain ⟨k, rfl⟩ : ∃ m, k = m + 1 := ⟨k - 1, by omega⟩
    simp only [awardingbodyref18_Errors.l0]
    rw [if_neg (by omega)]
    obtain rfl : i = w.length := by omega
    rfl
  | succ d ih =>
    intro i k hi hk
    obtain ⟨k, rfl⟩ : ∃ m, k = m + 1 := ⟨k - 1, by omega⟩
    have hn := errN_le w c i
    have hs : wrap64 ((i : Int) + 1) = ((i + 1 : Nat) : Int) := by unfold wrap64; omega
    have hs2 : wrap64 (((errN w c i : Nat) : Int) + 1) = ((errN w c i + 1 : Nat) : Int) := by unfold wrap64; omega
    have := ih (i + 1) k (by omega) (by omega)
    simp only [errN] at this
    simp only [awardingbodyref18_Errors.l0]
    rw [if_pos (by omega), if_pos (by omega), hs, hs2]
    simp only [rd_cast]
    by_cases h0 : 0 ≤ w.getD i 0
    · rw [if_pos h0, if_pos (by omega)]
      by_cases h1 : w.getD i 0 = c.getD i 0
      · rw [if_pos h1]; rw [if_neg (by simp only [h1]; simp), Nat.add_zero] at this; exact this
      · rw [if_neg h1]; rw [if_pos ⟨h0, h1⟩] at this; exact this
    · rw [if_neg h0]; rw [if_neg (fun h => h0 h.1), Nat.add_zero] at this; exact this
def r_Err.f (w c : List Int) : Option Int := if w.length ≤ 1000 ∧ w.length ≤ c.length then some ((errN w c w.length : Nat) : Int) else none
theorem r_Err.calls (A0 : Option Addr) (c0 : Nat) (l0 : List Int) (A1 : Option Addr) (c1 : Nat) (l1 : List Int) (r : Int) (w : World) (hr0 : Kd.C (Kd.int .i64) w A0 l0.length l0) (hc0 : l0.length ≤ c0) (hr1 : Kd.C (Kd.int .i64) w A1 l1.length l1) (hc1 : l1.length ≤ c1) (h : r_Err.f l0 l1 = some r) :
    Calls Try.prog 56 #[.slice A0 l0.length c0, .slice A1 l1.length c1] w fun e w' => e = .returned (.int .i64 r) ∧ Drawn0 w w' := by
  unfold r_Err.f at h
  by_cases hl : l0.length ≤ 1000 ∧ l0.length ≤ l1.length
  · rw [if_pos hl] at h
    obtain rfl := Option.some.inj h
    exact awardingbodyref18_Errors.calls 1002 A0 c0 l0 A1 c1 l1 _ w hr0 hc0 hr1 hc1 (err_l0 l0 l1 hl.1 hl.2 l0.length 0 1002 (by omega) (by omega))
  · rw [if_neg hl] at h; cases h
theorem era_l0 (w : List Int) (hl : w.length ≤ 1000) : ∀ (d i k : Nat), i + d = w.length → d < k → awardingbodyref18_Erased.l0 k w (eraN w i) (i : Int) = some (eraN w w.length) := by
  intro d
  induction d with
  | zero =>
    intro i k hi hk
    obtain ⟨k, rfl⟩ : ∃ m, k = m + 1 := ⟨k - 1, by omega⟩
    simp only [awardingbodyref18_Erased.l0]
    rw [if_neg (by omega)]
    obtain rfl : i = w.length := by omega
    rfl
  | succ d ih =>
    intro i k hi hk
    obtain ⟨k, rfl⟩ : ∃ m, k = m + 1 := ⟨k - 1, by omega⟩
    have hn := eraN_le w i
    have hs : wrap64 ((i : Int) + 1) = ((i + 1 : Nat) : Int) := by unfold wrap64; omega
    have := ih (i + 1) k (by omega) (by omega)
    simp only [eraN] at this
    simp only [awardingbodyref18_Erased.l0]
    rw [if_pos (by omega), if_pos (by omega), hs]
    simp only [rd_cast]
    by_cases h0 : w.getD i 0 < 0
    · rw [if_pos h0, if_pos (by omega)]; rw [if_pos h0] at this; exact this
    · rw [if_neg h0]; rw [if_neg h0, List.append_nil] at this; exact this
def r_Era.f (w : List Int) : Option (List Int) := if w.length ≤ 1000 then some (eraN w w.length) else none
theorem r_Era.calls (A0 : Option Addr) (c0 : Nat) (l0 : List Int) (r : List Int) (w : World) (hr0 : Kd.C (Kd.int .i64) w A0 l0.length l0) (hc0 : l0.length ≤ c0) (h : r_Era.f l0 = some r) :
    Calls Try.prog 54 #[.slice A0 l0.length c0] w fun e w' => ∃ v0_ : Value, e = .returned (v0_) ∧ Kd.R (Kd.int .i64) 3 w' w.heap.size (fun _ => True) v0_ r ∧ Below w.heap.size w w' := by
  unfold r_Era.f at h
  by_cases hl : l0.length ≤ 1000
  · rw [if_pos hl] at h
    obtain rfl := Option.some.inj h
    exact awardingbodyref18_Erased.calls 1002 A0 c0 l0 _ w hr0 hc0 (era_l0 l0 hl l0.length 0 1002 (by omega) (by omega))
  · rw [if_neg hl] at h; cases h
def g_dec2.f (w c : List Int) : Option (List Int × Int) := if 6 ≤ c.length ∧ c.length ≤ 1000 ∧ w.length ≤ c.length then some (c.take (c.length - 6), ((errN w c w.length : Nat) : Int)) else none
theorem g_dec2.some {w c t : List Int} {u : Int} (h : g_dec2.f w c = some (t, u)) : 6 ≤ c.length ∧ c.length ≤ 1000 ∧ t = c.take (c.length - 6) ∧ r_Err.f w c = some u := by
  unfold g_dec2.f at h
  by_cases hl : 6 ≤ c.length ∧ c.length ≤ 1000 ∧ w.length ≤ c.length
  · rw [if_pos hl] at h
    simp only [Option.some.injEq, Prod.mk.injEq] at h
    refine ⟨hl.1, hl.2.1, h.1.symm, ?_⟩
    unfold r_Err.f
    rw [if_pos (by omega), h.2]
  · rw [if_neg hl] at h; cases h
end Go.Proofs.Ytpkhgapifnjbeaa.G
end
section
namespace Go.Proofs.Ytpkhgapifnjbeaa.V
open Go.RowKit Go.Proofs.Ytpkhgapifnjbeaa.G Go.Proofs.Ytpkhgapifnjbeaa.Rs Go.Proofs.YtpkhgapifnjbeaaW.PrintWords Go.Proofs.YtpkhgapifnjbeaaW.PrintLast Go.Proofs.YtpkhgapifnjbeaaW.PrintMore
attribute [local go_sem] max2_int min2_int max_two min_two max_three min_three max_four min_four
set_option linter.unusedVariables false
set_option linter.unusedSimpArgs false
def errW : Option Int → Value
  | none => .nilIface
  | some c => .iface 0 (.int .i64 c)
theorem errW_none : errW none = .nilIface := rfl
theorem errW_some (c : Int) : errW (some c) = .iface 0 (.int .i64 c) := rfl
theorem info3 : (Try.prog.info? 3).map (fun i => (i.zero, i.size, i.bytes)) = some (some (.int .i64 0), 1, 8) := by kernel_rfl
def rd_L1 (xs : List (List Int)) (i : Int) : (List Int) := xs.getD i.toNat ([] : List Int)
theorem at_L1 {w : World} {A : Option Addr} {n : Nat} {xs : List (List Int)} (h : Kd.C (Kd.slice 3 (Kd.int .i64)) w A n xs) (i : Int) (h0 : 0 ≤ i) (h1 : i < n) : ∃ ad A0 c0, A = some ad ∧ w.cell? (ad.add i.toNat) = some (.slice A0 (rd_L1 xs i).length c0) ∧ (rd_L1 xs i).length ≤ c0 ∧ (Kd.int .i64).C w A0 (rd_L1 xs i).length (rd_L1 xs i) := by
  obtain ⟨ad, c, e, _, hK, hc0⟩ := Kd.C_get h ([] : List Int) i h0 h1
  have hc : ∀ j u, c[j]? = some u → w.cell? (ad.add (i.toNat * 1 + j)) = some u := hc0
  obtain ⟨A0, c0, rfl, l0, g0⟩ := hK
  exact ⟨ad, A0, c0, e, by have hq := hc 0 _ rfl; rwa [Nat.mul_one, Nat.add_zero] at hq, l0, g0⟩
end Go.Proofs.Ytpkhgapifnjbeaa.V
end
section
namespace Go.Proofs.Ytpkhgapifnjbeaa.V
open Go.RowKit Go.Proofs.Ytpkhgapifnjbeaa.G Go.Proofs.Ytpkhgapifnjbeaa.Rs Go.Proofs.YtpkhgapifnjbeaaW.PrintWords Go.Proofs.YtpkhgapifnjbeaaW.PrintLast Go.Proofs.YtpkhgapifnjbeaaW.PrintMore
attribute [local go_sem] max2_int min2_int max_two min_two max_three min_three max_four min_four
set_option linter.unusedVariables false
set_option linter.unusedSimpArgs false
def awardingbodyref18_element.f (a0 : Int) : Option (Bool) := if a0 ≥ 0 then (some (decide (a0 < 32))) else (some false)
set_option maxHeartbeats 8000000 in
set_option maxRecDepth 100000 in
theorem awardingbodyref18_element.calls (a0 : Int) (r : Bool) (w : World) (h : awardingbodyref18_element.f a0 = some r) :
    Calls Try.prog 40 #[.int .i64 a0] w fun e w' => e = .returned (.bool r) ∧ Drawn0 w w' := by
  have H : (if a0 ≥ 0 then (some (decide (a0 < 32))) else (some false)) = some r := h
  clear h
  by_cases c2 : a0 ≥ 0
  · rw [if_pos c2] at H
    have c2b0 : decide (0 ≤ a0) = true := decide_eq_true c2
    clear c2
    obtain rfl := Option.some.inj H
    go_enter Try.func40, Try.ntmps40
    go_wp2
    go_ret
    exact ⟨by first | rfl | (simp; done) | (simp [*]; done), by repeat (first | exact Drawn0.refl _ | apply Drawn0.step)⟩
  · rw [if_neg c2] at H
    have c2b0 : decide (0 ≤ a0) = false := decide_eq_false c2
    clear c2
    obtain rfl := Option.some.inj H
    go_enter Try.func40, Try.ntmps40
    go_wp2
    go_ret
    exact ⟨by first | rfl | (simp; done) | (simp [*]; done), by repeat (first | exact Drawn0.refl _ | apply Drawn0.step)⟩
mutual
def awardingbodyref18_Encode.j0 : Nat → List Int → Bool → Option (List Int × Int)
  | 0, _, _ => none
  | k + 1, x0, x17 => if x17 = true then (some (([] : List Int), 2)) else (if 0 ≤ (wrap64 ((x0.length : Int) + 6)) then (if (wrap64 ((x0.length : Int) + 6) : Int).toNat ≤ 35184372088832 then (awardingbodyref18_Encode.l0 k x0 (List.replicate (wrap64 ((x0.length : Int) + 6) : Int).toNat 0) 0) else (none)) else (none))
def awardingbodyref18_Encode.l0 : Nat → List Int → List Int → Int → Option (List Int × Int)
  | 0, _, _, _ => none
  | k + 1, x0, x4, x6 => if x6 < (x0.length : Int) then (if 0 ≤ x6 then ((awardingbodyref18_element.f (rd x0 x6)).bind fun t107 => (if t107 = true then (if x6 < (x4.length : Int) then (awardingbodyref18_Encode.l0 k x0 (x4.set (x6 : Int).toNat (rd x0 x6)) (wrap64 (x6 + 1))) else (none)) else (some (([] : List Int), 2)))) else (none)) else (awardingbodyref18_Encode.l1 k x0 x4 ([] : List Int) 0)
def awardingbodyref18_Encode.l1 : Nat → List Int → List Int → List Int → Int → Option (List Int × Int)
  | 0, _, _, _, _ => none
  | k + 1, x0, x4, x5, x7 => if x7 < 6 then (if x5.length < 17592186044416 then (awardingbodyref18_Encode.l1 k x0 x4 (x5 ++ [wrap64 ((x0.length : Int) + x7)]) (wrap64 (x7 + 1))) else (none)) else ((r_Fill.f x4 x5).bind fun bt113 => (some (bt113.1, 0)))
end
def awardingbodyref18_Encode.f (k : Nat) (l0 : List Int) : Option (List Int × Int) := if (l0.length : Int) < 1 then (awardingbodyref18_Encode.j0 k l0 true) else (awardingbodyref18_Encode.j0 k l0 (decide ((l0.length : Int) > 9)))
theorem awardingbodyref18_Encode.mono_l : ∀ k, (∀ y0 y1, LeO (awardingbodyref18_Encode.j0 k y0 y1) (awardingbodyref18_Encode.j0 (k + 1) y0 y1)) ∧ (∀ y0 y1 y2, LeO (awardingbodyref18_Encode.l0 k y0 y1 y2) (awardingbodyref18_Encode.l0 (k + 1) y0 y1 y2)) ∧ (∀ y0 y1 y2 y3, LeO (awardingbodyref18_Encode.l1 k y0 y1 y2 y3) (awardingbodyref18_Encode.l1 (k + 1) y0 y1 y2 y3))
  | 0 => ⟨fun _ _ r h => by simp [awardingbodyref18_Encode.j0] at h, fun _ _ _ r h => by simp [awardingbodyref18_Encode.l0] at h, fun _ _ _ _ r h => by simp [awardingbodyref18_Encode.l1] at h⟩
  | k + 1 => by
    obtain ⟨ih0, ih1, ih2⟩ := awardingbodyref18_Encode.mono_l k
    refine ⟨?_, ?_, ?_⟩
    · intro y0 y1
      unfold awardingbodyref18_Encode.j0
      repeat' first
      | (with_reducible exact ih0 _ _)
      | (with_reducible exact ih1 _ _ _)
      | (with_reducible exact ih2 _ _ _ _)
      | (with_reducible exact LeO.refl _)
      | (with_reducible exact LeO.none _)
      | (with_reducible refine LeO.ite ?_ ?_)
      | (with_reducible refine LeO.bind ?_ (fun _ => ?_))
      | exact ih0 _ _
      | exact ih1 _ _ _
      | exact ih2 _ _ _ _
      | exact LeO.none _
      | refine LeO.ite ?_ ?_
      | refine LeO.bind ?_ (fun _ => ?_)
    · intro y0 y1 y2
      unfold awardingbodyref18_Encode.l0
      repeat' first
      | (with_reducible exact ih0 _ _)
      | (with_reducible exact ih1 _ _ _)
      | (with_reducible exact ih2 _ _ _ _)
      | (with_reducible exact LeO.refl _)
      | (with_reducible exact LeO.none _)
      | (with_reducible refine LeO.ite ?_ ?_)
      | (with_reducible refine LeO.bind ?_ (fun _ => ?_))
      | exact ih0 _ _
      | exact ih1 _ _ _
      | exact ih2 _ _ _ _
      | exact LeO.none _
      | refine LeO.ite ?_ ?_
      | refine LeO.bind ?_ (fun _ => ?_)
    · intro y0 y1 y2 y3
      unfold awardingbodyref18_Encode.l1
      repeat' first
      | (with_reducible exact ih0 _ _)
      | (with_reducible exact ih1 _ _ _)
      | (with_reducible exact ih2 _ _ _ _)
      | (with_reducible exact LeO.refl _)
      | (with_reducible exact LeO.none _)
      | (with_reducible refine LeO.ite ?_ ?_)
      | (with_reducible refine LeO.bind ?_ (fun _ => ?_))
      | exact ih0 _ _
      | exact ih1 _ _ _
      | exact ih2 _ _ _ _
      | exact LeO.none _
      | refine LeO.ite ?_ ?_
      | refine LeO.bind ?_ (fun _ => ?_)
theorem awardingbodyref18_Encode.mono : ∀ a0 k, LeO (awardingbodyref18_Encode.f k a0) (awardingbodyref18_Encode.f (k + 1) a0) := by
  intro a0 k
  obtain ⟨ih0, ih1, ih2⟩ := awardingbodyref18_Encode.mono_l k
  unfold awardingbodyref18_Encode.f
  repeat' first
      | (with_reducible exact ih0 _ _)
      | (with_reducible exact ih1 _ _ _)
      | (with_reducible exact ih2 _ _ _ _)
      | (with_reducible exact LeO.refl _)
      | (with_reducible exact LeO.none _)
      | (with_reducible refine LeO.ite ?_ ?_)
      | (with_reducible refine LeO.bind ?_ (fun _ => ?_))
      | exact ih0 _ _
      | exact ih1 _ _ _
      | exact ih2 _ _ _ _
      | exact LeO.none _
      | refine LeO.ite ?_ ?_
      | refine LeO.bind ?_ (fun _ => ?_)
set_option maxHeartbeats 8000000 in
set_option maxRecDepth 100000 in
theorem awardingbodyref18_Encode.calls (k : Nat) (A0 : Option Addr) (c0 : Nat) (l0 : List Int) (r1 : List Int) (r2 : Int) (w : World) (hr0 : Kd.C (Kd.int .i64) w A0 l0.length l0) (hc0 : l0.length ≤ c0) (h : awardingbodyref18_Encode.f k l0 = some (r1, r2)) :
    Calls Try.prog 28 #[.slice A0 l0.length c0] w fun e w' => ∃ v0_ : Value, e = .returned (.tuple #[v0_, .int .i64 r2]) ∧ Kd.R (Kd.int .i64) 3 w' w.heap.size (fun _ => True) v0_ r1 ∧ Below w.heap.size w w' := by
  have HR0 := Aside0.mk hr0
  have HC0 := Aside0.mk hc0
  clear hr0 hc0
  have HB := Aside0.mk (Below.refl w.heap.size w)
  have H : (if (l0.length : Int) < 1 then (awardingbodyref18_Encode.j0 k l0 true) else (awardingbodyref18_Encode.j0 k l0 (decide ((l0.length : Int) > 9)))) = some (r1, r2) := h
  clear h
  have HC2 := Aside0.mk H
  clear H
  go_enter Try.func28, Try.ntmps28
  go_upto_region 1 with (fail)
  go_cut [17] (fun v17 wc => ∃ (kq : Nat) (x17_1 : Bool), v17 = .bool x17_1 ∧ Aside0 (awardingbodyref18_Encode.j0 kq l0 x17_1 = some (r1, r2)) ∧ Aside0 (kq ≤ k) ∧ Aside0 (Below w.heap.size w wc))
  case first =>
    have H := HC2.out
    clear HC2
    by_cases c3 : (l0.length : Int) < 1
    · rw [if_pos c3] at H
      have c3b0 : decide ((l0.length : Int) < 1) = true := decide_eq_true c3
      have c3b1 : decide (l0.length < 1) = true := decide_eq_true (by omega)
      clear c3
      (first | rw [c3b0] | (simp only [i64_w, i32_w]; rw [c3b0]) | skip)
      have H' := Aside0.mk H
      clear H
      go_wp2
      go_meet
      case rel => exact ⟨_, (true), (by first | rfl | (simp; done) | (simp [*]; done)), H', ⟨by first | omega | exact Nat.le_refl _⟩, ⟨by repeat (first | (with_reducible first | exact HB.out | apply below_alloc | apply pw_below_drewN | apply below_drew1) | exact HB.out)⟩⟩
    · rw [if_neg c3] at H
      have c3b0 : decide ((l0.length : Int) < 1) = false := decide_eq_false c3
      have c3b1 : decide (l0.length < 1) = false := decide_eq_false (by omega)
      clear c3
      (first | rw [c3b0] | (simp only [i64_w, i32_w]; rw [c3b0]) | skip)
      have H' := Aside0.mk H
      clear H
      go_wp2
      go_meet
      case rel => exact ⟨_, (decide ((l0.length : Int) > 9)), (by first | rfl | (simp; done) | (simp [*]; done)), H', ⟨by first | omega | exact Nat.le_refl _⟩, ⟨by repeat (first | (with_reducible first | exact HB.out | apply below_alloc | apply pw_below_drewN | apply below_drew1) | exact HB.out)⟩⟩
  case rest =>
    clear HC2
    try clear c2
    try clear p2
    try clear c3
    try clear c3b0
    try clear c3b1
    obtain ⟨kq, x17_1, rfl, HA, HJ1, HB⟩ := hcut
    cases kq with
    | zero => exact absurd HA.out (by simp [awardingbodyref18_Encode.j0])
    | succ kj1 =>
      have H := HA.out
      clear HA
      simp only [awardingbodyref18_Encode.j0] at H
      by_cases c4 : x17_1 = true
      · subst c4
        have H1 : (some (([] : List Int), 2)) = some (r1, r2) := by rw [if_pos rfl] at H; exact H
        clear H
        have H := H1
        clear H1
        simp only [Option.some.injEq, Prod.mk.injEq] at H
        obtain ⟨rfl, rfl⟩ := H
        go_wp2
        go_ret2
        exact ⟨_, by first | rfl | (simp [errW_none, errW_some] <;> rfl) | (simp [*, errW_none, errW_some] <;> rfl), by first | exact Kd.R_nil _ _ _ _ _ | exact Kd.N_nil _ _ _ _ _ | exact Kd.V_nil _ _ _ _ _ | exact Kd.Q_nil _ _ _ _ _ | exact Kd.S_nil _ _ _ _ _, by repeat (first | (with_reducible first | exact HB.out | apply below_alloc | apply pw_below_drewN | apply below_drew1) | exact HB.out)⟩
      · replace c4 := Bool.eq_false_iff.mpr c4
        subst c4
        have H1 : (if 0 ≤ (wrap64 ((l0.length : Int) + 6)) then (if (wrap64 ((l0.length : Int) + 6) : Int).toNat ≤ 35184372088832 then (awardingbodyref18_Encode.l0 kj1 l0 (List.replicate (wrap64 ((l0.length : Int) + 6) : Int).toNat 0) 0) else (none)) else (none)) = some (r1, r2) := by rw [if_neg (show ¬ (false = true) by decide)] at H; exact H
        clear H
        have H := H1
        clear H1
        obtain ⟨ji5, hji5⟩ : ∃ j_ : Int, (wrap64 ((l0.length : Int) + 6)) = j_ := ⟨_, rfl⟩
        replace H : (if 0 ≤ (ji5) then (if (ji5 : Int).toNat ≤ 35184372088832 then (awardingbodyref18_Encode.l0 kj1 l0 (List.replicate (ji5 : Int).toNat 0) 0) else (none)) else (none)) = some (r1, r2) := by first | (rw [hji5] at H; exact H) | (simp only [hji5] at H ⊢; exact H)
        have hji5w : (IntKind.i64.wrap ((l0.length : Int) + 6)) = ji5 := (i64_w _).trans hji5
        by_cases c6 : 0 ≤ (ji5)
        · rw [if_pos c6] at H
          have c6b0 := eq_true c6
          have c6b1 : decide (0 ≤ (ji5)) = true := decide_eq_true c6
          clear c6
          by_cases c7 : (ji5 : Int).toNat ≤ 35184372088832
          · rw [if_pos c7] at H
            have c7b0 := eq_true c7
            have c7b1 : decide ((ji5 : Int).toNat ≤ 35184372088832) = true := decide_eq_true c7
            clear c7
            obtain ⟨y103, hy103⟩ : ∃ y_ : List Int, y_ = (List.replicate (ji5 : Int).toNat 0) := ⟨_, rfl⟩
            replace H : (awardingbodyref18_Encode.l0 kj1 l0 y103 0) = some (r1, r2) := by first | (rw [hy103]; with_reducible exact H) | (have H2_ := (Option.bind_some _ _).symm.trans H; rw [hy103]; with_reducible exact H2_) | (have H2_ := (Option.bind_some _ _).symm.trans H; with_reducible exact H2_) | with_reducible exact H | (rw [hy103]; exact H) | exact H
            have Ny103 := Aside0.mk hy103
            clear hy103
            have H' := Aside0.mk H
            clear H
            go_wp2_with (first | ((with_reducible refine gate_dst (N := 21) rfl ?_); (try (refine gate_guard (by rfl) ?_; dsimp only)); refine Kd.R_make (Kd.int .i64) _ 3 rfl (N := 21) rfl 27 _ _ rfl ji5 rfl rfl Try.underlying27 (.int .i64 0) 8 info3 rfl (by decide) (by omega) 0 (ok := fun _ => True) (okp := fun _ => True) rfl (fun _ hk => hk) trivial (of_decide_eq_true (by first | (with_reducible assumption) | assumption)) (Nat.le_trans (Nat.mul_le_mul_right _ (of_decide_eq_true (by first | (with_reducible assumption) | assumption) : ji5.toNat ≤ 35184372088832)) (by omega)) (Below.refl _ _) (Nat.le_refl _) ?_; intro v104 w8 ho9 hb hg_ hnew_; clear hg_ hnew_; (first | rw [← Ny103.out] at ho9 | (simp only [Int.reduceToNat] at ho9; rw [← Ny103.out] at ho9)); have n0_ := Aside0.mk (Kd.R_lower ho9 (below_size (by repeat (first | (with_reducible first | exact HB.out | apply below_alloc | apply pw_below_drewN | apply below_drew1) | exact HB.out)))); have n1_ := Aside0.mk (below_step (by repeat (first | (with_reducible first | exact HB.out | apply below_alloc | apply pw_below_drewN | apply below_drew1) | exact HB.out)) hb); clear HB; have HO105 := n0_; have HB := n1_; clear n0_ n1_; clear hb ho9))
            go_loopg [6] kj1 (fun kq v6 w' => ∃ (x4_2 : List Int) (x6_2 : Int), v6 = .int .i64 x6_2 ∧ Aside0 (awardingbodyref18_Encode.l0 kq l0 x4_2 x6_2 = some (r1, r2)) ∧ Aside0 (kq ≤ kj1) ∧ Aside0 (Kd.R (Kd.int .i64) 3 w' w.heap.size (fun _ => True) v104 x4_2) ∧ Aside0 (Below w.heap.size w w'))
            case atStart => exact ⟨(y103), (0), (by first | rfl | (simp; done) | (simp [*]; done)), H', ⟨Nat.le_refl _⟩, ⟨by (with_reducible repeat (first | apply Kd.R_alloc | apply Kd.R_drewN | apply Kd.R_drew)); exact HO105.out⟩, ⟨by repeat (first | (with_reducible first | exact HB.out | apply below_alloc | apply pw_below_drewN | apply below_drew1) | exact HB.out)⟩⟩
            case round =>
              clear H'
              try clear c2
              try clear p2
              try clear c3
              try clear c3b0
              try clear c3b1
              try clear c4
              try clear c6
              try clear c6b0
              try clear c6b1
              try clear p6
              try clear c7
              try clear c7b0
              try clear c7b1
              try clear p2
              obtain ⟨x4_2, x6_2, rfl, HA, HK2, HO_4, HB⟩ := hrel
              cases gk with
              | zero => exact absurd HA.out (by simp [awardingbodyref18_Encode.l0])
              | succ k2 =>
                have H := HA.out
                clear HA
                simp only [awardingbodyref18_Encode.l0] at H
                by_cases c10 : x6_2 < (l0.length : Int)
                · rw [if_pos c10] at H
                  have c10b0 : decide (x6_2 < (l0.length : Int)) = true := decide_eq_true c10
                  clear c10
                  by_cases c11 : 0 ≤ x6_2
                  · rw [if_pos c11] at H
                    have c11b0 : decide (0 ≤ x6_2) = true := decide_eq_true c11
                    clear c11
                    replace H := Option.bind_eq_some_iff.mp H
                    obtain ⟨t107, A120, H⟩ := H
                    replace H : (if t107 = true then (if x6_2 < (x4_2.length : Int) then (awardingbodyref18_Encode.l0 k2 l0 (x4_2.set (x6_2 : Int).toNat (rd l0 x6_2)) (wrap64 (x6_2 + 1))) else (none)) else (some (([] : List Int), 2))) = some (r1, r2) := H
                    have A12 := Aside0.mk A120
                    clear A120
                    by_cases c13 : t107 = true
                    · subst c13
                      have H1 : (if x6_2 < (x4_2.length : Int) then (awardingbodyref18_Encode.l0 k2 l0 (x4_2.set (x6_2 : Int).toNat (rd l0 x6_2)) (wrap64 (x6_2 + 1))) else (none)) = some (r1, r2) := by rw [if_pos rfl] at H; exact H
                      clear H
                      have H := H1
                      clear H1
                      by_cases c14 : x6_2 < (x4_2.length : Int)
                      · rw [if_pos c14] at H
                        have c14b0 : decide (x6_2 < (x4_2.length : Int)) = true := decide_eq_true c14
                        clear c14
                        obtain ⟨y109, hy109⟩ : ∃ y_ : List Int, y_ = (x4_2.set (x6_2 : Int).toNat (rd l0 x6_2)) := ⟨_, rfl⟩
                        replace H : (awardingbodyref18_Encode.l0 k2 l0 y109 (wrap64 (x6_2 + 1))) = some (r1, r2) := by first | (rw [hy109]; with_reducible exact H) | (have H2_ := (Option.bind_some _ _).symm.trans H; rw [hy109]; with_reducible exact H2_) | (have H2_ := (Option.bind_some _ _).symm.trans H; with_reducible exact H2_) | with_reducible exact H | (rw [hy109]; exact H) | exact H
                        have Ny109 := Aside0.mk hy109
                        clear hy109
                        have H' := Aside0.mk H
                        clear H
                        have p106 : 0 ≤ (x6_2 : Int) := of_decide_eq_true (by first | (with_reducible assumption) | assumption)
                        have q106 : x6_2 < (l0.length : Int) := of_decide_eq_true (by first | (with_reducible assumption) | assumption)
                        obtain ⟨ad106, e106, hx106_0⟩ := Kd.at_int HR0.out x6_2 p106 q106
                        cases e106
                        replace hx106_0 := (HB.out.cell (World.block_lt_of_cell? w _ hx106_0)).trans hx106_0
                        replace p106 := eq_true p106
                        replace q106 := eq_true q106
                        go_wp2_with (first | ((with_reducible refine gate_callee (f := 40) rfl ?_); refine goesL_ (some 32) rfl rfl Try.func40 (by kernel_rfl) rfl #[.int .i64 (rd l0 x6_2)] rfl (by (try simp only [List.map_toArray, List.map_cons, List.map_nil]); first | done | rfl | (simp only [List.length_drop, List.length_take]; rfl)) ?_; (with_reducible refine (awardingbodyref18_element.calls (rd l0 x6_2) true _ A12.out).mono ?_); rintro e w' ⟨rfl, ⟨nd, rfl⟩⟩; refine ⟨_, rfl, ?_⟩; (try (rw [drewN_self wr]; generalize hq_ : World.drewN wr _ = wr; have n0_ : Aside0 (Kd.R (Kd.int .i64) 3 wr w.heap.size (fun _ => True) v104 x4_2) := ⟨by rw [← hq_]; exact (by (with_reducible repeat (first | apply Kd.R_alloc | apply Kd.R_drewN | apply Kd.R_drew)); exact HO_4.out)⟩; have n1_ : Aside0 (Below w.heap.size w wr) := ⟨by rw [← hq_]; exact (by repeat (first | (with_reducible first | exact HB.out | apply below_alloc | apply pw_below_drewN | apply below_drew1) | exact HB.out))⟩; clear HO_4 HB hq_; have HO_4 := n0_; have HB := n1_; clear n0_ n1_)); have p108 : 0 ≤ (x6_2 : Int) := of_decide_eq_true (by first | (with_reducible assumption) | assumption); have q108 : x6_2 < (l0.length : Int) := of_decide_eq_true (by first | (with_reducible assumption) | assumption); obtain ⟨ad108, e108, hx108_0⟩ := Kd.at_int HR0.out x6_2 p108 q108; obtain rfl : ad106 = ad108 := (by injection e108); replace hx108_0 := (HB.out.cell (World.block_lt_of_cell? w _ hx108_0)).trans hx108_0; replace p108 := eq_true p108; replace q108 := eq_true q108; have p15 : 0 ≤ (x6_2 : Int) := of_decide_eq_true (by first | (with_reducible assumption) | assumption); have q15 : (x6_2 : Int) < ((x4_2.length : Int) : Int) := of_decide_eq_true (by first | (with_reducible assumption) | assumption); obtain ⟨go15, co15, eo15, gb15, gl15, cl15, HG15⟩ := Kd.R_form HO_4.out (by omega); (first | cases eo15 | (injection eo15 with ea_ en_ ec_; (first | subst ea_ | (injection ea_ with ea_; subst ea_)); subst ec_; clear en_)); have GB15 := Aside0.mk gb15; have GG15 := Aside0.mk HG15; clear gb15 gl15 HG15; obtain ⟨hx15_0, hf15_0⟩ := Kd.R_celln 0 HO_4.out (x6_2 : Int) p15 q15; replace p15 := eq_true p15; replace q15 := eq_true q15; obtain ⟨hy16_, hz16_⟩ := Kd.R_celln 0 HO_4.out (x6_2 : Int) (of_decide_eq_true (by first | (with_reducible assumption) | assumption)) (of_decide_eq_true (by first | (with_reducible assumption) | assumption)); have HP16 := Kd.R_putg HO_4.out (x6_2 : Int) (rd l0 x6_2)) | ((with_reducible refine gate_store (t := 3) (p := 40) rfl ?_); refine store_event (t := 3) (p := 40) (v := ?vo_w17) (w1 := (wr.setCell ⟨go15, (x6_2 : Int).toNat, none⟩ (.int .i64 (rd l0 x6_2)))) ?hg ?ho ?hn ?hr ?_; (case ho => rfl); (case hg => rfl); (case hn => rfl); (case hr => first | (go_simp; done) | (go_simp; rfl)); intro w17 hw; have hg : wr.grownBy w17 (some go15) := (by rw [hw]; exact HP16.2); have hp_ : Kd.R (Kd.int .i64) 3 w17 w.heap.size (fun _ => True) (.slice (some ⟨go15, 0, none⟩) x4_2.length co15) y109 := (by rw [hw, Ny109.out]; exact HP16.1); clear HP16; have n0_ := Aside0.mk (hp_); have n1_ := Aside0.mk ((by rw [hw]; exact below_set (HB.out) GB15.out : Below w.heap.size w w17)); clear HO_4; clear HB; have HO_4 := n0_; have HB := n1_; clear n0_ n1_; clear hg hw hp_))
                        go_roundg k2
                        case measure => have := HJ1.out; have := HK2.out; omega
                        case rel => exact ⟨(y109), (wrap64 (x6_2 + 1)), (by first | rfl | (simp; done) | (simp [*]; done)), H', ⟨by have := HJ1.out; have := HK2.out; omega⟩, ⟨by (with_reducible repeat (first | apply Kd.R_alloc | apply Kd.R_drewN | apply Kd.R_drew)); exact HO_4.out⟩, ⟨by repeat (first | (with_reducible first | exact HB.out | apply below_alloc | apply pw_below_drewN | apply below_drew1) | exact HB.out)⟩⟩
                      · rw [if_neg c14] at H
                        exact absurd H (by simp)
                    · replace c13 := Bool.eq_false_iff.mpr c13
                      subst c13
                      have H1 : (some (([] : List Int), 2)) = some (r1, r2) := by rw [if_neg (show ¬ (false = true) by decide)] at H; exact H
                      clear H
                      have H := H1
                      clear H1
                      simp only [Option.some.injEq, Prod.mk.injEq] at H
                      obtain ⟨rfl, rfl⟩ := H
                      have p106 : 0 ≤ (x6_2 : Int) := of_decide_eq_true (by first | (with_reducible assumption) | assumption)
                      have q106 : x6_2 < (l0.length : Int) := of_decide_eq_true (by first | (with_reducible assumption) | assumption)
                      obtain ⟨ad106, e106, hx106_0⟩ := Kd.at_int HR0.out x6_2 p106 q106
                      cases e106
                      replace hx106_0 := (HB.out.cell (World.block_lt_of_cell? w _ hx106_0)).trans hx106_0
                      replace p106 := eq_true p106
                      replace q106 := eq_true q106
                      go_wp2_with (first | ((with_reducible refine gate_callee (f := 40) rfl ?_); refine goesL_ (some 32) rfl rfl Try.func40 (by kernel_rfl) rfl #[.int .i64 (rd l0 x6_2)] rfl (by (try simp only [List.map_toArray, List.map_cons, List.map_nil]); first | done | rfl | (simp only [List.length_drop, List.length_take]; rfl)) ?_; (with_reducible refine (awardingbodyref18_element.calls (rd l0 x6_2) false _ A12.out).mono ?_); rintro e w' ⟨rfl, ⟨nd, rfl⟩⟩; refine ⟨_, rfl, ?_⟩))
                      go_ret2
                      exact ⟨_, by first | rfl | (simp [errW_none, errW_some] <;> rfl) | (simp only [← hji5]; first | rfl | (simp [errW_none, errW_some] <;> rfl)) | (simp [*, errW_none, errW_some] <;> rfl), by first | exact Kd.R_nil _ _ _ _ _ | exact Kd.N_nil _ _ _ _ _ | exact Kd.V_nil _ _ _ _ _ | exact Kd.Q_nil _ _ _ _ _ | exact Kd.S_nil _ _ _ _ _, by repeat (first | (with_reducible first | exact HB.out | apply below_alloc | apply pw_below_drewN | apply below_drew1) | exact HB.out)⟩
                  · rw [if_neg c11] at H
                    exact absurd H (by simp)
                · rw [if_neg c10] at H
                  have c10b0 : decide (x6_2 < (l0.length : Int)) = false := decide_eq_false c10
                  clear c10
                  have H' := Aside0.mk H
                  clear H
                  go_wp2
                  go_loopg [5, 7] k2 (fun kq v5 v7 w' => ∃ (x5_3 : List Int) (x7_3 : Int), v7 = .int .i64 x7_3 ∧ Aside0 (awardingbodyref18_Encode.l1 kq l0 x4_2 x5_3 x7_3 = some (r1, r2)) ∧ Aside0 (kq ≤ k2) ∧ Aside0 (Kd.R (Kd.int .i64) 3 w' w.heap.size (fun k_ => some k_ ≠ (v5 : Value).ownBlock) v104 x4_2) ∧ Aside0 (Kd.R (Kd.int .i64) 3 w' w.heap.size (fun k_ => some k_ ≠ (v104 : Value).ownBlock) v5 x5_3) ∧ Aside0 (Below w.heap.size w w'))
                  case atStart => exact ⟨(([] : List Int)), (0), (by first | rfl | (simp; done) | (simp [*]; done)), H', ⟨Nat.le_refl _⟩, ⟨by (with_reducible repeat (first | apply Kd.R_alloc | apply Kd.R_drewN | apply Kd.R_drew)); exact Kd.R_mono HO_4.out (fun _ hk => (by simp [Value.ownBlock]))⟩, ⟨by first | exact Kd.R_nil _ _ _ _ _ | exact Kd.N_nil _ _ _ _ _ | exact Kd.V_nil _ _ _ _ _ | exact Kd.Q_nil _ _ _ _ _ | exact Kd.S_nil _ _ _ _ _⟩, ⟨by repeat (first | (with_reducible first | exact HB.out | apply below_alloc | apply pw_below_drewN | apply below_drew1) | exact HB.out)⟩⟩
                  case round =>
                    clear H'
                    try clear c1
                    try clear p1
                    try clear q1
                    try clear hx1
                    try clear hf1
                    try clear c2
                    try clear p2
                    try clear c3
                    try clear c3b0
                    try clear c3b1
                    try clear c4
                    try clear c6
                    try clear c6b0
                    try clear c6b1
                    try clear p6
                    try clear c7
                    try clear c7b0
                    try clear c7b1
                    try clear c10
                    try clear c10b0
                    try clear p10
                    try clear q10
                    try clear hx10
                    try clear c11
                    try clear c11b0
                    try clear c13
                    try clear c14
                    try clear c14b0
                    try clear p15
                    try clear q15
                    try clear hx15
                    try clear hf15
                    try clear hx106_0
                    try clear hx108_0
                    try clear hx15_0
                    try clear p106
                    try clear p108
                    try clear p15
                    try clear p2
                    try clear p6
                    try clear q106
                    try clear q108
                    try clear q15
                    obtain ⟨x5_3, x7_3, rfl, HA, HK3, HO_4, HO_5, HB⟩ := hrel
                    cases gk with
                    | zero => exact absurd HA.out (by simp [awardingbodyref18_Encode.l1])
                    | succ k3 =>
                      have H := HA.out
                      clear HA
                      simp only [awardingbodyref18_Encode.l1] at H
                      by_cases c18 : x7_3 < 6
                      · rw [if_pos c18] at H
                        have c18b0 : decide (x7_3 < 6) = true := decide_eq_true c18
                        clear c18
                        by_cases c19 : x5_3.length < 17592186044416
                        · rw [if_pos c19] at H
                          have LMc19 := Aside0.mk c19
                          clear c19
                          obtain ⟨y110, hy110⟩ : ∃ y_ : List Int, y_ = (x5_3 ++ [wrap64 ((l0.length : Int) + x7_3)]) := ⟨_, rfl⟩
                          replace H : (awardingbodyref18_Encode.l1 k3 l0 x4_2 y110 (wrap64 (x7_3 + 1))) = some (r1, r2) := by first | (rw [hy110]; with_reducible exact H) | (have H2_ := (Option.bind_some _ _).symm.trans H; rw [hy110]; with_reducible exact H2_) | (have H2_ := (Option.bind_some _ _).symm.trans H; with_reducible exact H2_) | with_reducible exact H | (rw [hy110]; exact H) | exact H
                          have Ny110 := Aside0.mk hy110
                          clear hy110
                          have H' := Aside0.mk H
                          clear H
                          go_wp2_with (first | ((with_reducible refine gate_builtin (b := .append) (xs := #[.tmp 45, .tmp 50]) rfl ?_); (try (refine gate_guard (by rfl) ?_; dsimp only)); at_builtin; refine Kd.R_append (Kd.int .i64) (w0 := w) w.heap.size rfl (.tmp 45) (.tmp 50) 27 3 (.int .i64 0) 8 rfl Try.underlying27 info3 rfl (by decide) (by omega) u5 x5_3 (wrap64 ((l0.length : Int) + x7_3)) [.int .i64 (wrap64 ((l0.length : Int) + x7_3))] (fun k_ => some k_ ≠ (v104 : Value).ownBlock) (fun _ => False) rfl rfl ?aP (fun _ hk => hk.elim) ?aF ?aO ?aB ?aS ?aL ?_; (case aP => exact rfl); (case aB => exact (by repeat (first | (with_reducible first | exact HB.out | apply below_alloc | apply pw_below_drewN | apply below_drew1) | exact HB.out))); (case aF => exact (fun k_ hk => Kd.fresh' (Kd.R_lt (by (with_reducible repeat (first | apply Kd.R_alloc | apply Kd.R_drewN | apply Kd.R_drew)); exact HO_4.out)) k_ hk)); (case aO => exact (by (with_reducible repeat (first | apply Kd.R_alloc | apply Kd.R_drewN | apply Kd.R_drew)); exact HO_5.out)); (case aS => exact (below_size (by repeat (first | (with_reducible first | exact HB.out | apply below_alloc | apply pw_below_drewN | apply below_drew1) | exact HB.out)))); (case aL => have := LMc19.out; omega); intro v111 w20 ho hb hg hat; rw [← Ny110.out] at ho; have n0_ := Aside0.mk (Kd.R_after (ok := (fun _ => True)) (by (with_reducible repeat (first | apply Kd.R_alloc | apply Kd.R_drewN | apply Kd.R_drew)); exact Kd.R_mono HO_4.out (fun _ hk => ⟨trivial, hk⟩)) hg hat); have n1_ := Aside0.mk (hb); have n2_ := Aside0.mk (ho); clear HO_4; clear HB; clear HO_5; have HO_4 := n0_; have HB := n1_; have HO112 := n2_; clear n0_ n1_ n2_; clear ho hb hg hat))
                          go_roundg k3
                          case measure => have := HJ1.out; have := HK2.out; have := HK3.out; omega
                          case rel => exact ⟨(y110), (wrap64 (x7_3 + 1)), (by first | rfl | (simp; done) | (simp [*]; done)), H', ⟨by have := HJ1.out; have := HK2.out; have := HK3.out; omega⟩, ⟨by (with_reducible repeat (first | apply Kd.R_alloc | apply Kd.R_drewN | apply Kd.R_drew)); exact Kd.R_mono HO_4.out (fun _ hk => hk.2)⟩, ⟨by (with_reducible repeat (first | apply Kd.R_alloc | apply Kd.R_drewN | apply Kd.R_drew)); exact HO112.out⟩, ⟨by repeat (first | (with_reducible first | exact HB.out | apply below_alloc | apply pw_below_drewN | apply below_drew1) | exact HB.out)⟩⟩
                        · rw [if_neg c19] at H
                          exact absurd H (by simp)
                      · rw [if_neg c18] at H
                        have c18b0 : decide (x7_3 < 6) = false := decide_eq_false c18
                        clear c18
                        replace H := Option.bind_eq_some_iff.mp H
                        obtain ⟨⟨t113, t114⟩, A210, H⟩ := H
                        replace H : (some (t113, 0)) = some (r1, r2) := H
                        have A21 := Aside0.mk A210
                        clear A210
                        simp only [Option.some.injEq, Prod.mk.injEq] at H
                        obtain ⟨rfl, rfl⟩ := H
                        obtain ⟨Ao22, co22, eo22⟩ := Kd.R_slice HO_4.out
                        subst eo22
                        obtain ⟨Ao23, co23, eo23⟩ := Kd.R_slice HO_5.out
                        subst eo23
                        go_wp2_with (first | ((with_reducible refine gate_callee (f := 48) rfl ?_); refine goesL_ (some 55) rfl rfl Try.func48 (by kernel_rfl) rfl #[.slice Ao22 x4_2.length co22, .slice Ao23 x5_3.length co23] rfl (by (try simp only [List.map_toArray, List.map_cons, List.map_nil]); first | done | rfl | (simp only [List.length_drop, List.length_take]; rfl)) ?_; (with_reducible refine (r_Fill.calls _ _ x4_2 _ _ x5_3 t113 t114 _ ?side1 ?side2 ?side3 ?side4 A21.out).mono ?_); (case side1 => repeat (first | exact (Kd.R_reads' HO_4.out).2.2 | (with_reducible refine Kd.C_alloc ?_ _) | (with_reducible refine Kd.C_drewN ?_ _) | (with_reducible refine Kd.C_drew ?_))); (case side2 => exact (Kd.R_reads' HO_4.out).2.1); (case side3 => repeat (first | exact (Kd.R_reads' HO_5.out).2.2 | (with_reducible refine Kd.C_alloc ?_ _) | (with_reducible refine Kd.C_drewN ?_ _) | (with_reducible refine Kd.C_drew ?_))); (case side4 => exact (Kd.R_reads' HO_5.out).2.1); rintro e w24 ⟨v115, rfl, ho0, hb⟩; refine ⟨_, rfl, ?_⟩; have n0_ := Aside0.mk (Kd.R_elder' (by (with_reducible repeat (first | apply Kd.R_alloc | apply Kd.R_drewN | apply Kd.R_drew)); exact HO_4.out) (Kd.R_base ho0) hb); have n1_ := Aside0.mk (Kd.R_elder' (by (with_reducible repeat (first | apply Kd.R_alloc | apply Kd.R_drewN | apply Kd.R_drew)); exact HO_5.out) (Kd.R_base ho0) hb); have n2_ := Aside0.mk (Kd.R_lower (Kd.R_new' (Kd.R_new' ho0 (Kd.R_lt (by (with_reducible repeat (first | apply Kd.R_alloc | apply Kd.R_drewN | apply Kd.R_drew)); exact HO_4.out))) (Kd.R_lt (by (with_reducible repeat (first | apply Kd.R_alloc | apply Kd.R_drewN | apply Kd.R_drew)); exact HO_5.out))) (below_size (by repeat (first | (with_reducible first | exact HB.out | apply below_alloc | apply pw_below_drewN | apply below_drew1) | exact HB.out)))); have n3_ := Aside0.mk (below_step (by repeat (first | (with_reducible first | exact HB.out | apply below_alloc | apply pw_below_drewN | apply below_drew1) | exact HB.out)) hb); clear HO_4; clear HO_5; clear HB; have HO_4 := n0_; have HO_5 := n1_; have HO116 := n2_; have HB := n3_; clear n0_ n1_ n2_ n3_; (try clear hb); (try clear hb2); (try clear hk); (try clear hi); (try clear ho0)))
                        go_ret2
                        exact ⟨_, by first | rfl | (simp [errW_none, errW_some] <;> rfl) | (simp only [← hji5]; first | rfl | (simp [errW_none, errW_some] <;> rfl)) | (simp [*, errW_none, errW_some] <;> rfl), by (with_reducible repeat (first | apply Kd.R_alloc | apply Kd.R_drewN | apply Kd.R_drew)); exact Kd.R_mono HO116.out (fun _ hk => trivial), by repeat (first | (with_reducible first | exact HB.out | apply below_alloc | apply pw_below_drewN | apply below_drew1) | exact HB.out)⟩
          · rw [if_neg c7] at H
            exact absurd H (by simp)
        · rw [if_neg c6] at H
          exact absurd H (by simp)
mutual
def awardingbodyref18_search.l0 : Nat → List Int → List Int → Int → Int → Option (List Int × Bool)
  | 0, _, _, _, _ => none
  | k + 1, x0, x1, x2, x12 => if x12 < (x0.length : Int) then (if 0 ≤ x12 then (if (rd x0 x12) < 0 then (awardingbodyref18_search.l0 k x0 x1 x2 (wrap64 (x12 + 1))) else (if ([] : List Int).length + x1.length < 17592186044416 then ((some (([] : List Int) ++ x1 : List Int)).bind fun y122 => (if y122.length < 17592186044416 then ((awardingbodyref18_search.f k x0 (y122 ++ [x12]) (wrap64 (x2 - 1)) (wrap64 (x12 + 1))).bind fun bt128 => (if bt128.2 = true then (some (bt128.1, true)) else (awardingbodyref18_search.l0 k x0 x1 x2 (wrap64 (x12 + 1))))) else (none))) else (none))) else (none)) else (some (([] : List Int), false))
def awardingbodyref18_search.f : Nat → List Int → List Int → Int → Int → Option (List Int × Bool)
  | 0, _, _, _, _ => none
  | k + 1, l0, l1, a2, a3 => (r_Fill.f l0 l1).bind fun bt117 => (if bt117.2 = true then (some (bt117.1, true)) else (if a2 = 0 then (some (([] : List Int), false)) else (awardingbodyref18_search.l0 k l0 l1 a2 a3)))
end
theorem awardingbodyref18_search.mono_l : ∀ k, (∀ y0 y1 y2 y3, LeO (awardingbodyref18_search.f k y0 y1 y2 y3) (awardingbodyref18_search.f (k + 1) y0 y1 y2 y3)) ∧ (∀ y0 y1 y2 y3, LeO (awardingbodyref18_search.l0 k y0 y1 y2 y3) (awardingbodyref18_search.l0 (k + 1) y0 y1 y2 y3))
  | 0 => ⟨fun _ _ _ _ r h => by simp [awardingbodyref18_search.f] at h, fun _ _ _ _ r h => by simp [awardingbodyref18_search.l0] at h⟩
  | k + 1 => by
    obtain ⟨ih0, ih1⟩ := awardingbodyref18_search.mono_l k
    refine ⟨?_, ?_⟩
    · intro y0 y1 y2 y3
      unfold awardingbodyref18_search.f
      repeat' first
      | (with_reducible exact ih0 _ _ _ _)
      | (with_reducible exact ih1 _ _ _ _)
      | (with_reducible exact LeO.refl _)
      | (with_reducible exact LeO.none _)
      | (with_reducible refine LeO.ite ?_ ?_)
      | (with_reducible refine LeO.bind ?_ (fun _ => ?_))
      | exact ih0 _ _ _ _
      | exact ih1 _ _ _ _
      | exact LeO.none _
      | refine LeO.ite ?_ ?_
      | refine LeO.bind ?_ (fun _ => ?_)
    · intro y0 y1 y2 y3
      unfold awardingbodyref18_search.l0
      repeat' first
      | (with_reducible exact ih0 _ _ _ _)
      | (with_reducible exact ih1 _ _ _ _)
      | (with_reducible exact LeO.refl _)
      | (with_reducible exact LeO.none _)
      | (with_reducible refine LeO.ite ?_ ?_)
      | (with_reducible refine LeO.bind ?_ (fun _ => ?_))
      | exact ih0 _ _ _ _
      | exact ih1 _ _ _ _
      | exact LeO.none _
      | refine LeO.ite ?_ ?_
      | refine LeO.bind ?_ (fun _ => ?_)
theorem awardingbodyref18_search.mono : ∀ a0 a1 a2 a3 k, LeO (awardingbodyref18_search.f k a0 a1 a2 a3) (awardingbodyref18_search.f (k + 1) a0 a1 a2 a3) := by
  intro a0 a1 a2 a3 k
  obtain ⟨ih0, ih1⟩ := awardingbodyref18_search.mono_l k
  exact ih0 a0 a1 a2 a3
set_option maxHeartbeats 8000000 in
set_option maxRecDepth 100000 in
theorem awardingbodyref18_search.calls (k : Nat) : ∀ (A0 : Option Addr) (c0 : Nat) (l0 : List Int) (A1 : Option Addr) (c1 : Nat) (l1 : List Int) (a2 : Int) (a3 : Int) (r1 : List Int) (r2 : Bool) (w : World) (hr0 : Kd.C (Kd.int .i64) w A0 l0.length l0) (hc0 : l0.length ≤ c0) (hr1 : Kd.C (Kd.int .i64) w A1 l1.length l1) (hc1 : l1.length ≤ c1) (h : awardingbodyref18_search.f k l0 l1 a2 a3 = some (r1, r2)),
    Calls Try.prog 55 #[.slice A0 l0.length c0, .slice A1 l1.length c1, .int .i64 a2, .int .i64 a3] w fun e w' => ∃ v0_ : Value, e = .returned (.tuple #[v0_, .bool r2]) ∧ Kd.R (Kd.int .i64) 3 w' w.heap.size (fun _ => True) v0_ r1 ∧ Below w.heap.size w w' := by
  induction k using Nat.strongRecOn with
  | _ k ih =>
  intro A0 c0 l0 A1 c1 l1 a2 a3 r1 r2 w hr0 hc0 hr1 hc1 h
  cases k with
  | zero => exact absurd h (by simp [awardingbodyref18_search.f])
  | succ k =>
  simp only [awardingbodyref18_search.f] at h
  have HR0 := Aside0.mk hr0
  have HC0 := Aside0.mk hc0
  clear hr0 hc0
  have HR1 := Aside0.mk hr1
  have HC1 := Aside0.mk hc1
  clear hr1 hc1
  have HB := Aside0.mk (Below.refl w.heap.size w)
  have H : ((r_Fill.f l0 l1).bind fun bt117 => (if bt117.2 = true then (some (bt117.1, true)) else (if a2 = 0 then (some (([] : List Int), false)) else (awardingbodyref18_search.l0 k l0 l1 a2 a3)))) = some (r1, r2) := h
  clear h
  replace H := Option.bind_eq_some_iff.mp H
  obtain ⟨⟨t117, t118⟩, A50, H⟩ := H
  replace H : (if t118 = true then (some (t117, true)) else (if a2 = 0 then (some (([] : List Int), false)) else (awardingbodyref18_search.l0 k l0 l1 a2 a3))) = some (r1, r2) := H
  have A5 := Aside0.mk A50
  clear A50
  by_cases c6 : t118 = true
  · subst c6
    have H1 : (some (t117, true)) = some (r1, r2) := by rw [if_pos rfl] at H; exact H
    clear H
    have H := H1
    clear H1
    simp only [Option.some.injEq, Prod.mk.injEq] at H
    obtain ⟨rfl, rfl⟩ := H
    go_enter Try.func55, Try.ntmps55
    go_wp2_with (first | ((with_reducible refine gate_callee (f := 48) rfl ?_); refine goesL_ (some 19) rfl rfl Try.func48 (by kernel_rfl) rfl #[.slice A0 l0.length c0, .slice A1 l1.length c1] rfl (by (try simp only [List.map_toArray, List.map_cons, List.map_nil]); first | done | rfl | (simp only [List.length_drop, List.length_take]; rfl)) ?_; (with_reducible refine (r_Fill.calls _ _ l0 _ _ l1 t117 true _ ?side1 ?side2 ?side3 ?side4 A5.out).mono ?_); (case side1 => repeat (first | exact HR0.out | (with_reducible refine Kd.C_alloc ?_ _) | (with_reducible refine Kd.C_drewN ?_ _) | (with_reducible refine Kd.C_drew ?_))); (case side2 => exact HC0.out); (case side3 => repeat (first | exact HR1.out | (with_reducible refine Kd.C_alloc ?_ _) | (with_reducible refine Kd.C_drewN ?_ _) | (with_reducible refine Kd.C_drew ?_))); (case side4 => exact HC1.out); rintro e w7 ⟨v119, rfl, ho0, hb⟩; refine ⟨_, rfl, ?_⟩; have n0_ := Aside0.mk (Kd.R_lower ho0 (below_size (by repeat (first | (with_reducible first | exact HB.out | apply below_alloc | apply pw_below_drewN | apply below_drew1) | exact HB.out)))); have n1_ := Aside0.mk (below_step (by repeat (first | (with_reducible first | exact HB.out | apply below_alloc | apply pw_below_drewN | apply below_drew1) | exact HB.out)) hb); clear HB; have HO120 := n0_; have HB := n1_; clear n0_ n1_; (try clear hb); (try clear hb2); (try clear hk); (try clear hi); (try clear ho0)))
    go_ret2
    exact ⟨_, by first | rfl | (simp [errW_none, errW_some] <;> rfl) | (simp [*, errW_none, errW_some] <;> rfl), by (with_reducible repeat (first | apply Kd.R_alloc | apply Kd.R_drewN | apply Kd.R_drew)); exact HO120.out, by repeat (first | (with_reducible first | exact HB.out | apply below_alloc | apply pw_below_drewN | apply below_drew1) | exact HB.out)⟩
  · replace c6 := Bool.eq_false_iff.mpr c6
    subst c6
    have H1 : (if a2 = 0 then (some (([] : List Int), false)) else (awardingbodyref18_search.l0 k l0 l1 a2 a3)) = some (r1, r2) := by rw [if_neg (show ¬ (false = true) by decide)] at H; exact H
    clear H
    have H := H1
    clear H1
    by_cases c8 : a2 = 0
    · rw [if_pos c8] at H
      have c8b0 : (a2 == 0) = true := beq_iff_eq.mpr c8
      have c8b1 : (a2 != 0) = false := bne_eq_false_iff_eq.mpr c8
      clear c8
      simp only [Option.some.injEq, Prod.mk.injEq] at H
      obtain ⟨rfl, rfl⟩ := H
      go_enter Try.func55, Try.ntmps55
      go_wp2_with (first | ((with_reducible refine gate_callee (f := 48) rfl ?_); refine goesL_ (some 19) rfl rfl Try.func48 (by kernel_rfl) rfl #[.slice A0 l0.length c0, .slice A1 l1.length c1] rfl (by (try simp only [List.map_toArray, List.map_cons, List.map_nil]); first | done | rfl | (simp only [List.length_drop, List.length_take]; rfl)) ?_; (with_reducible refine (r_Fill.calls _ _ l0 _ _ l1 t117 false _ ?side1 ?side2 ?side3 ?side4 A5.out).mono ?_); (case side1 => repeat (first | exact HR0.out | (with_reducible refine Kd.C_alloc ?_ _) | (with_reducible refine Kd.C_drewN ?_ _) | (with_reducible refine Kd.C_drew ?_))); (case side2 => exact HC0.out); (case side3 => repeat (first | exact HR1.out | (with_reducible refine Kd.C_alloc ?_ _) | (with_reducible refine Kd.C_drewN ?_ _) | (with_reducible refine Kd.C_drew ?_))); (case side4 => exact HC1.out); rintro e w9 ⟨v119, rfl, ho0, hb⟩; refine ⟨_, rfl, ?_⟩; have n0_ := Aside0.mk (Kd.R_lower ho0 (below_size (by repeat (first | (with_reducible first | exact HB.out | apply below_alloc | apply pw_below_drewN | apply below_drew1) | exact HB.out)))); have n1_ := Aside0.mk (below_step (by repeat (first | (with_reducible first | exact HB.out | apply below_alloc | apply pw_below_drewN | apply below_drew1) | exact HB.out)) hb); clear HB; have HO120 := n0_; have HB := n1_; clear n0_ n1_; (try clear hb); (try clear hb2); (try clear hk); (try clear hi); (try clear ho0)))
      go_ret2
      exact ⟨_, by first | rfl | (simp [errW_none, errW_some] <;> rfl) | (simp [*, errW_none, errW_some] <;> rfl), by first | exact Kd.R_nil _ _ _ _ _ | exact Kd.N_nil _ _ _ _ _ | exact Kd.V_nil _ _ _ _ _ | exact Kd.Q_nil _ _ _ _ _ | exact Kd.S_nil _ _ _ _ _, by repeat (first | (with_reducible first | exact HB.out | apply below_alloc | apply pw_below_drewN | apply below_drew1) | exact HB.out)⟩
    · rw [if_neg c8] at H
      have c8b0 : (a2 == 0) = false := beq_eq_false_iff_ne.mpr c8
      have c8b1 : (a2 != 0) = true := bne_iff_ne.mpr c8
      have H' := Aside0.mk H
      clear H
      go_enter Try.func55, Try.ntmps55
      go_wp2_with (first | ((with_reducible refine gate_callee (f := 48) rfl ?_); refine goesL_ (some 19) rfl rfl Try.func48 (by kernel_rfl) rfl #[.slice A0 l0.length c0, .slice A1 l1.length c1] rfl (by (try simp only [List.map_toArray, List.map_cons, List.map_nil]); first | done | rfl | (simp only [List.length_drop, List.length_take]; rfl)) ?_; (with_reducible refine (r_Fill.calls _ _ l0 _ _ l1 t117 false _ ?side1 ?side2 ?side3 ?side4 A5.out).mono ?_); (case side1 => repeat (first | exact HR0.out | (with_reducible refine Kd.C_alloc ?_ _) | (with_reducible refine Kd.C_drewN ?_ _) | (with_reducible refine Kd.C_drew ?_))); (case side2 => exact HC0.out); (case side3 => repeat (first | exact HR1.out | (with_reducible refine Kd.C_alloc ?_ _) | (with_reducible refine Kd.C_drewN ?_ _) | (with_reducible refine Kd.C_drew ?_))); (case side4 => exact HC1.out); rintro e w10 ⟨v119, rfl, ho0, hb⟩; refine ⟨_, rfl, ?_⟩; have n0_ := Aside0.mk (Kd.R_lower ho0 (below_size (by repeat (first | (with_reducible first | exact HB.out | apply below_alloc | apply pw_below_drewN | apply below_drew1) | exact HB.out)))); have n1_ := Aside0.mk (below_step (by repeat (first | (with_reducible first | exact HB.out | apply below_alloc | apply pw_below_drewN | apply below_drew1) | exact HB.out)) hb); clear HB; have HO120 := n0_; have HB := n1_; clear n0_ n1_; (try clear hb); (try clear hb2); (try clear hk); (try clear hi); (try clear ho0)))
      go_loopg [12] k (fun kq v12 w' => ∃ (x12_1 : Int), v12 = .int .i64 x12_1 ∧ Aside0 (awardingbodyref18_search.l0 kq l0 l1 a2 x12_1 = some (r1, r2)) ∧ Aside0 (kq ≤ k) ∧ Aside0 (Below w.heap.size w w'))
      case atStart => exact ⟨(a3), (by first | rfl | (simp; done) | (simp [*]; done)), H', ⟨Nat.le_refl _⟩, ⟨by repeat (first | (with_reducible first | exact HB.out | apply below_alloc | apply pw_below_drewN | apply below_drew1) | exact HB.out)⟩⟩
      case round =>
        clear H'
        try clear c1
        try clear p2
        try clear c4
        try clear c5
        try clear c6
        try clear c8
        try clear c8b0
        try clear c8b1
        obtain ⟨x12_1, rfl, HA, HK1, HB⟩ := hrel
        cases gk with
        | zero => exact absurd HA.out (by simp [awardingbodyref18_search.l0])
        | succ k1 =>
          have H := HA.out
          clear HA
          simp only [awardingbodyref18_search.l0] at H
          by_cases c11 : x12_1 < (l0.length : Int)
          · rw [if_pos c11] at H
            have c11b0 : decide (x12_1 < (l0.length : Int)) = true := decide_eq_true c11
            clear c11
            by_cases c12 : 0 ≤ x12_1
            · rw [if_pos c12] at H
              have c12b0 : decide (0 ≤ x12_1) = true := decide_eq_true c12
              clear c12
              by_cases c13 : (rd l0 x12_1) < 0
              · rw [if_pos c13] at H
                have c13b0 : decide ((rd l0 x12_1) < 0) = true := decide_eq_true c13
                clear c13
                have H' := Aside0.mk H
                clear H
                have p121 : 0 ≤ (x12_1 : Int) := of_decide_eq_true (by first | (with_reducible assumption) | assumption)
                have q121 : x12_1 < (l0.length : Int) := of_decide_eq_true (by first | (with_reducible assumption) | assumption)
                obtain ⟨ad121, e121, hx121_0⟩ := Kd.at_int HR0.out x12_1 p121 q121
                cases e121
                replace hx121_0 := (HB.out.cell (World.block_lt_of_cell? w _ hx121_0)).trans hx121_0
                replace p121 := eq_true p121
                replace q121 := eq_true q121
                go_wp2
                go_roundg k1
                case measure => have := HK1.out; omega
                case rel => exact ⟨(wrap64 (x12_1 + 1)), (by first | rfl | (simp; done) | (simp [*]; done)), H', ⟨by have := HK1.out; omega⟩, ⟨by repeat (first | (with_reducible first | exact HB.out | apply below_alloc | apply pw_below_drewN | apply below_drew1) | exact HB.out)⟩⟩
              · rw [if_neg c13] at H
                have c13b0 : decide ((rd l0 x12_1) < 0) = false := decide_eq_false c13
                clear c13
                by_cases c14 : ([] : List Int).length + l1.length < 17592186044416
                · rw [if_pos c14] at H
                  have LMc14 := Aside0.mk c14
                  clear c14
                  obtain ⟨y122, hy122⟩ : ∃ y_ : List Int, y_ = (([] : List Int) ++ l1) := ⟨_, rfl⟩
                  replace H : (if y122.length < 17592186044416 then ((awardingbodyref18_search.f k1 l0 (y122 ++ [x12_1]) (wrap64 (a2 - 1)) (wrap64 (x12_1 + 1))).bind fun bt128 => (if bt128.2 = true then (some (bt128.1, true)) else (awardingbodyref18_search.l0 k1 l0 l1 a2 (wrap64 (x12_1 + 1))))) else (none)) = some (r1, r2) := by first | (rw [hy122]; with_reducible exact H) | (have H2_ := (Option.bind_some _ _).symm.trans H; rw [hy122]; with_reducible exact H2_) | (have H2_ := (Option.bind_some _ _).symm.trans H; with_reducible exact H2_) | with_reducible exact H | (rw [hy122]; exact H) | exact H
                  have Ny122 := Aside0.mk hy122
                  clear hy122
                  by_cases c15 : y122.length < 17592186044416
                  · rw [if_pos c15] at H
                    have LMc15 := Aside0.mk c15
                    clear c15
                    obtain ⟨y125, hy125⟩ : ∃ y_ : List Int, y_ = (y122 ++ [x12_1]) := ⟨_, rfl⟩
                    replace H : ((awardingbodyref18_search.f k1 l0 y125 (wrap64 (a2 - 1)) (wrap64 (x12_1 + 1))).bind fun bt128 => (if bt128.2 = true then (some (bt128.1, true)) else (awardingbodyref18_search.l0 k1 l0 l1 a2 (wrap64 (x12_1 + 1))))) = some (r1, r2) := by first | (rw [hy125]; with_reducible exact H) | (have H2_ := (Option.bind_some _ _).symm.trans H; rw [hy125]; with_reducible exact H2_) | (have H2_ := (Option.bind_some _ _).symm.trans H; with_reducible exact H2_) | with_reducible exact H | (rw [hy125]; exact H) | exact H
                    have Ny125 := Aside0.mk hy125
                    clear hy125
                    replace H := Option.bind_eq_some_iff.mp H
                    obtain ⟨⟨t128, t129⟩, A160, H⟩ := H
                    replace H : (if t129 = true then (some (t128, true)) else (awardingbodyref18_search.l0 k1 l0 l1 a2 (wrap64 (x12_1 + 1)))) = some (r1, r2) := H
                    have A16 := Aside0.mk A160
                    clear A160
                    by_cases c17 : t129 = true
                    · subst c17
                      have H1 : (some (t128, true)) = some (r1, r2) := by rw [if_pos rfl] at H; exact H
                      clear H
                      have H := H1
                      clear H1
                      simp only [Option.some.injEq, Prod.mk.injEq] at H
                      obtain ⟨rfl, rfl⟩ := H
                      have p121 : 0 ≤ (x12_1 : Int) := of_decide_eq_true (by first | (with_reducible assumption) | assumption)
                      have q121 : x12_1 < (l0.length : Int) := of_decide_eq_true (by first | (with_reducible assumption) | assumption)
                      obtain ⟨ad121, e121, hx121_0⟩ := Kd.at_int HR0.out x12_1 p121 q121
                      cases e121
                      replace hx121_0 := (HB.out.cell (World.block_lt_of_cell? w _ hx121_0)).trans hx121_0
                      replace p121 := eq_true p121
                      replace q121 := eq_true q121
                      go_wp2_with (first | ((with_reducible refine gate_builtin (b := .append) (xs := #[.tmp 38, .tmp 39]) rfl ?_); at_builtin; refine Kd.R_append_rows (Kd.int .i64) (w0 := w) w.heap.size rfl (.tmp 38) (.tmp 39) 27 3 (.int .i64 0) 8 rfl Try.underlying27 info3 rfl (by decide) (by omega) (.slice none 0 0) ([] : List Int) l1 _ _ _ (fun _ => True) (fun _ => False) rfl rfl ?aO ?aR (fun _ _ h => h) (fun _ h => h.elim) ?aF ?aB ?aS ?aL ?_; (case aR => repeat (first | exact (Kd.C_below HR1.out HB.out) | (with_reducible refine Kd.C_alloc ?_ _) | (with_reducible refine Kd.C_drewN ?_ _) | (with_reducible refine Kd.C_drew ?_))); (case aB => exact (by repeat (first | (with_reducible first | exact HB.out | apply below_alloc | apply pw_below_drewN | apply below_drew1) | exact HB.out))); (case aF => exact (fun _ _ => trivial)); (case aO => exact ((Kd.R_nil _ _ _ _ (fun _ => True)))); (case aS => exact (below_size (by repeat (first | (with_reducible first | exact HB.out | apply below_alloc | apply pw_below_drewN | apply below_drew1) | exact HB.out)))); (case aL => have := LMc14.out; omega); intro v123 w18 ho hb hg hat; rw [← Ny122.out] at ho; have n0_ := Aside0.mk (hb); have n1_ := Aside0.mk (ho); clear HB; have HB := n0_; have HO124 := n1_; clear n0_ n1_; clear ho hb hg hat) | ((with_reducible refine gate_builtin (b := .append) (xs := #[.tmp 41, .tmp 43]) rfl ?_); at_builtin; refine Kd.R_append (Kd.int .i64) (w0 := w) w.heap.size rfl (.tmp 41) (.tmp 43) 27 3 (.int .i64 0) 8 rfl Try.underlying27 info3 rfl (by decide) (by omega) v123 y122 x12_1 [.int .i64 x12_1] (fun _ => True) (fun _ => False) rfl rfl ?aP (fun _ hk => hk.elim) ?aF ?aO ?aB ?aS ?aL ?_; (case aP => exact rfl); (case aB => exact (by repeat (first | (with_reducible first | exact HB.out | apply below_alloc | apply pw_below_drewN | apply below_drew1) | exact HB.out))); (case aF => exact (fun _ _ => trivial)); (case aO => exact (by (with_reducible repeat (first | apply Kd.R_alloc | apply Kd.R_drewN | apply Kd.R_drew)); exact HO124.out)); (case aS => exact (below_size (by repeat (first | (with_reducible first | exact HB.out | apply below_alloc | apply pw_below_drewN | apply below_drew1) | exact HB.out)))); (case aL => have := LMc15.out; omega); intro v126 w19 ho hb hg hat; rw [← Ny125.out] at ho; have n0_ := Aside0.mk (hb); have n1_ := Aside0.mk (ho); clear HB; clear HO124; have HB := n0_; have HO127 := n1_; clear n0_ n1_; clear ho hb hg hat; obtain ⟨Ao20, co20, eo20⟩ := Kd.R_slice HO127.out; subst eo20) | ((with_reducible refine gate_callee (f := 55) rfl ?_); refine goesL_ (some 52) rfl rfl Try.func55 (by kernel_rfl) rfl #[.slice (some ad121) l0.length c0, .slice Ao20 y125.length co20, .int .i64 (wrap64 (a2 - 1)), .int .i64 (wrap64 (x12_1 + 1))] rfl (by (try simp only [List.map_toArray, List.map_cons, List.map_nil]); first | done | rfl | (simp only [List.length_drop, List.length_take]; rfl)) ?_; (with_reducible refine (ih k1 (by have := HK1.out; omega) _ _ l0 _ _ y125 (wrap64 (a2 - 1)) (wrap64 (x12_1 + 1)) t128 true _ ?side1 ?side2 ?side3 ?side4 A16.out).mono ?_); (case side1 => repeat (first | exact (Kd.C_below HR0.out HB.out) | (with_reducible refine Kd.C_alloc ?_ _) | (with_reducible refine Kd.C_drewN ?_ _) | (with_reducible refine Kd.C_drew ?_))); (case side2 => exact HC0.out); (case side3 => repeat (first | exact (Kd.R_reads' HO127.out).2.2 | (with_reducible refine Kd.C_alloc ?_ _) | (with_reducible refine Kd.C_drewN ?_ _) | (with_reducible refine Kd.C_drew ?_))); (case side4 => exact (Kd.R_reads' HO127.out).2.1); rintro e w21 ⟨v130, rfl, ho0, hb⟩; refine ⟨_, rfl, ?_⟩; have n0_ := Aside0.mk (Kd.R_elder' (by (with_reducible repeat (first | apply Kd.R_alloc | apply Kd.R_drewN | apply Kd.R_drew)); exact HO127.out) (Kd.R_base ho0) hb); have n1_ := Aside0.mk (Kd.R_lower (Kd.R_new' ho0 (Kd.R_lt (by (with_reducible repeat (first | apply Kd.R_alloc | apply Kd.R_drewN | apply Kd.R_drew)); exact HO127.out))) (below_size (by repeat (first | (with_reducible first | exact HB.out | apply below_alloc | apply pw_below_drewN | apply below_drew1) | exact HB.out)))); have n2_ := Aside0.mk (below_step (by repeat (first | (with_reducible first | exact HB.out | apply below_alloc | apply pw_below_drewN | apply below_drew1) | exact HB.out)) hb); clear HO127; clear HB; have HO127 := n0_; have HO131 := n1_; have HB := n2_; clear n0_ n1_ n2_; (try clear hb); (try clear hb2); (try clear hk); (try clear hi); (try clear ho0)))
                      go_ret2
                      exact ⟨_, by first | rfl | (simp [errW_none, errW_some] <;> rfl) | (simp [*, errW_none, errW_some] <;> rfl), by (with_reducible repeat (first | apply Kd.R_alloc | apply Kd.R_drewN | apply Kd.R_drew)); exact Kd.R_mono HO131.out (fun _ hk => trivial), by repeat (first | (with_reducible first | exact HB.out | apply below_alloc | apply pw_below_drewN | apply below_drew1) | exact HB.out)⟩
                    · replace c17 := Bool.eq_false_iff.mpr c17
                      subst c17
                      have H1 : (awardingbodyref18_search.l0 k1 l0 l1 a2 (wrap64 (x12_1 + 1))) = some (r1, r2) := by rw [if_neg (show ¬ (false = true) by decide)] at H; exact H
                      clear H
                      have H := H1
                      clear H1
                      have H' := Aside0.mk H
                      clear H
                      have p121 : 0 ≤ (x12_1 : Int) := of_decide_eq_true (by first | (with_reducible assumption) | assumption)
                      have q121 : x12_1 < (l0.length : Int) := of_decide_eq_true (by first | (with_reducible assumption) | assumption)
                      obtain ⟨ad121, e121, hx121_0⟩ := Kd.at_int HR0.out x12_1 p121 q121
                      cases e121
                      replace hx121_0 := (HB.out.cell (World.block_lt_of_cell? w _ hx121_0)).trans hx121_0
                      replace p121 := eq_true p121
                      replace q121 := eq_true q121
                      go_wp2_with (first | ((with_reducible refine gate_builtin (b := .append) (xs := #[.tmp 38, .tmp 39]) rfl ?_); at_builtin; refine Kd.R_append_rows (Kd.int .i64) (w0 := w) w.heap.size rfl (.tmp 38) (.tmp 39) 27 3 (.int .i64 0) 8 rfl Try.underlying27 info3 rfl (by decide) (by omega) (.slice none 0 0) ([] : List Int) l1 _ _ _ (fun _ => True) (fun _ => False) rfl rfl ?aO ?aR (fun _ _ h => h) (fun _ h => h.elim) ?aF ?aB ?aS ?aL ?_; (case aR => repeat (first | exact (Kd.C_below HR1.out HB.out) | (with_reducible refine Kd.C_alloc ?_ _) | (with_reducible refine Kd.C_drewN ?_ _) | (with_reducible refine Kd.C_drew ?_))); (case aB => exact (by repeat (first | (with_reducible first | exact HB.out | apply below_alloc | apply pw_below_drewN | apply below_drew1) | exact HB.out))); (case aF => exact (fun _ _ => trivial)); (case aO => exact ((Kd.R_nil _ _ _ _ (fun _ => True)))); (case aS => exact (below_size (by repeat (first | (with_reducible first | exact HB.out | apply below_alloc | apply pw_below_drewN | apply below_drew1) | exact HB.out)))); (case aL => have := LMc14.out; omega); intro v123 w22 ho hb hg hat; rw [← Ny122.out] at ho; have n0_ := Aside0.mk (hb); have n1_ := Aside0.mk (ho); clear HB; have HB := n0_; have HO124 := n1_; clear n0_ n1_; clear ho hb hg hat) | ((with_reducible refine gate_builtin (b := .append) (xs := #[.tmp 41, .tmp 43]) rfl ?_); at_builtin; refine Kd.R_append (Kd.int .i64) (w0 := w) w.heap.size rfl (.tmp 41) (.tmp 43) 27 3 (.int .i64 0) 8 rfl Try.underlying27 info3 rfl (by decide) (by omega) v123 y122 x12_1 [.int .i64 x12_1] (fun _ => True) (fun _ => False) rfl rfl ?aP (fun _ hk => hk.elim) ?aF ?aO ?aB ?aS ?aL ?_; (case aP => exact rfl); (case aB => exact (by repeat (first | (with_reducible first | exact HB.out | apply below_alloc | apply pw_below_drewN | apply below_drew1) | exact HB.out))); (case aF => exact (fun _ _ => trivial)); (case aO => exact (by (with_reducible repeat (first | apply Kd.R_alloc | apply Kd.R_drewN | apply Kd.R_drew)); exact HO124.out)); (case aS => exact (below_size (by repeat (first | (with_reducible first | exact HB.out | apply below_alloc | apply pw_below_drewN | apply below_drew1) | exact HB.out)))); (case aL => have := LMc15.out; omega); intro v126 w23 ho hb hg hat; rw [← Ny125.out] at ho; have n0_ := Aside0.mk (hb); have n1_ := Aside0.mk (ho); clear HB; clear HO124; have HB := n0_; have HO127 := n1_; clear n0_ n1_; clear ho hb hg hat; obtain ⟨Ao24, co24, eo24⟩ := Kd.R_slice HO127.out; subst eo24) | ((with_reducible refine gate_callee (f := 55) rfl ?_); refine goesL_ (some 52) rfl rfl Try.func55 (by kernel_rfl) rfl #[.slice (some ad121) l0.length c0, .slice Ao24 y125.length co24, .int .i64 (wrap64 (a2 - 1)), .int .i64 (wrap64 (x12_1 + 1))] rfl (by (try simp only [List.map_toArray, List.map_cons, List.map_nil]); first | done | rfl | (simp only [List.length_drop, List.length_take]; rfl)) ?_; (with_reducible refine (ih k1 (by have := HK1.out; omega) _ _ l0 _ _ y125 (wrap64 (a2 - 1)) (wrap64 (x12_1 + 1)) t128 false _ ?side1 ?side2 ?side3 ?side4 A16.out).mono ?_); (case side1 => repeat (first | exact (Kd.C_below HR0.out HB.out) | (with_reducible refine Kd.C_alloc ?_ _) | (with_reducible refine Kd.C_drewN ?_ _) | (with_reducible refine Kd.C_drew ?_))); (case side2 => exact HC0.out); (case side3 => repeat (first | exact (Kd.R_reads' HO127.out).2.2 | (with_reducible refine Kd.C_alloc ?_ _) | (with_reducible refine Kd.C_drewN ?_ _) | (with_reducible refine Kd.C_drew ?_))); (case side4 => exact (Kd.R_reads' HO127.out).2.1); rintro e w25 ⟨v130, rfl, ho0, hb⟩; refine ⟨_, rfl, ?_⟩; have n0_ := Aside0.mk (Kd.R_elder' (by (with_reducible repeat (first | apply Kd.R_alloc | apply Kd.R_drewN | apply Kd.R_drew)); exact HO127.out) (Kd.R_base ho0) hb); have n1_ := Aside0.mk (Kd.R_lower (Kd.R_new' ho0 (Kd.R_lt (by (with_reducible repeat (first | apply Kd.R_alloc | apply Kd.R_drewN | apply Kd.R_drew)); exact HO127.out))) (below_size (by repeat (first | (with_reducible first | exact HB.out | apply below_alloc | apply pw_below_drewN | apply below_drew1) | exact HB.out)))); have n2_ := Aside0.mk (below_step (by repeat (first | (with_reducible first | exact HB.out | apply below_alloc | apply pw_below_drewN | apply below_drew1) | exact HB.out)) hb); clear HO127; clear HB; have HO127 := n0_; have HO131 := n1_; have HB := n2_; clear n0_ n1_ n2_; (try clear hb); (try clear hb2); (try clear hk); (try clear hi); (try clear ho0)))
                      go_roundg k1
                      case measure => have := HK1.out; omega
                      case rel => exact ⟨(wrap64 (x12_1 + 1)), (by first | rfl | (simp; done) | (simp [*]; done)), H', ⟨by have := HK1.out; omega⟩, ⟨by repeat (first | (with_reducible first | exact HB.out | apply below_alloc | apply pw_below_drewN | apply below_drew1) | exact HB.out)⟩⟩
                  · rw [if_neg c15] at H
                    exact absurd H (by simp)
                · rw [if_neg c14] at H
                  exact absurd H (by simp)
            · rw [if_neg c12] at H
              exact absurd H (by simp)
          · rw [if_neg c11] at H
            have c11b0 : decide (x12_1 < (l0.length : Int)) = false := decide_eq_false c11
            clear c11
            simp only [Option.some.injEq, Prod.mk.injEq] at H
            obtain ⟨rfl, rfl⟩ := H
            go_wp2
            go_ret2
            exact ⟨_, by first | rfl | (simp [errW_none, errW_some] <;> rfl) | (simp [*, errW_none, errW_some] <;> rfl), by first | exact Kd.R_nil _ _ _ _ _ | exact Kd.N_nil _ _ _ _ _ | exact Kd.V_nil _ _ _ _ _ | exact Kd.Q_nil _ _ _ _ _ | exact Kd.S_nil _ _ _ _ _, by repeat (first | (with_reducible first | exact HB.out | apply below_alloc | apply pw_below_drewN | apply below_drew1) | exact HB.out)⟩
def awardingbodyref18_Decode.f (k : Nat) (l0 : List Int) : Option (List Int × Int × Int) := (r_symbols.f l0 (-1)).bind fun t132 => (if t132 = true then ((r_Era.f l0).bind fun t133 => (if (t133.length : Int) > 6 then (some (([] : List Int), 0, 25)) else ((awardingbodyref18_search.f k l0 t133 (wrap64 (Int.tdiv (wrap64 (6 - (t133.length : Int))) 2)) 0).bind fun bt136 => (if bt136.2 = true then ((g_dec2.f l0 bt136.1).bind fun bt140 => (some (bt140.1, bt140.2, 0))) else (some (([] : List Int), 0, 25)))))) else (some (([] : List Int), 0, 2)))
theorem awardingbodyref18_Decode.mono : ∀ a0 k, LeO (awardingbodyref18_Decode.f k a0) (awardingbodyref18_Decode.f (k + 1) a0) := by
  intro a0 k
  unfold awardingbodyref18_Decode.f
  repeat' first
      | (with_reducible exact awardingbodyref18_search.mono _ _ _ _ _)
      | (with_reducible exact LeO.refl _)
      | (with_reducible exact LeO.none _)
      | (with_reducible refine LeO.ite ?_ ?_)
      | (with_reducible refine LeO.bind ?_ (fun _ => ?_))
      | exact awardingbodyref18_search.mono _ _ _ _ _
      | exact LeO.none _
      | refine LeO.ite ?_ ?_
      | refine LeO.bind ?_ (fun _ => ?_)
set_option maxHeartbeats 8000000 in
set_option maxRecDepth 100000 in
theorem awardingbodyref18_Decode.calls (k : Nat) (A0 : Option Addr) (c0 : Nat) (l0 : List Int) (r1 : List Int) (r2 : Int) (r3 : Int) (w : World) (hr0 : Kd.C (Kd.int .i64) w A0 l0.length l0) (hc0 : l0.length ≤ c0) (h : awardingbodyref18_Decode.f k l0 = some (r1, r2, r3)) :
    Calls Try.prog 35 #[.slice A0 l0.length c0] w fun e w' => ∃ v0_ : Value, e = .returned (.tuple #[v0_, .int .i64 r2, .int .i64 r3]) ∧ Kd.R (Kd.int .i64) 3 w' w.heap.size (fun _ => True) v0_ r1 ∧ Below w.heap.size w w' := by
  have HR0 := Aside0.mk hr0
  have HC0 := Aside0.mk hc0
  clear hr0 hc0
  have HB := Aside0.mk (Below.refl w.heap.size w)
  have H : ((r_symbols.f l0 (-1)).bind fun t132 => (if t132 = true then ((r_Era.f l0).bind fun t133 => (if (t133.length : Int) > 6 then (some (([] : List Int), 0, 25)) else ((awardingbodyref18_search.f k l0 t133 (wrap64 (Int.tdiv (wrap64 (6 - (t133.length : Int))) 2)) 0).bind fun bt136 => (if bt136.2 = true then ((g_dec2.f l0 bt136.1).bind fun bt140 => (some (bt140.1, bt140.2, 0))) else (some (([] : List Int), 0, 25)))))) else (some (([] : List Int), 0, 2)))) = some (r1, r2, r3) := h
  clear h
  replace H := Option.bind_eq_some_iff.mp H
  obtain ⟨t132, A20, H⟩ := H
  replace H : (if t132 = true then ((r_Era.f l0).bind fun t133 => (if (t133.length : Int) > 6 then (some (([] : List Int), 0, 25)) else ((awardingbodyref18_search.f k l0 t133 (wrap64 (Int.tdiv (wrap64 (6 - (t133.length : Int))) 2)) 0).bind fun bt136 => (if bt136.2 = true then ((g_dec2.f l0 bt136.1).bind fun bt140 => (some (bt140.1, bt140.2, 0))) else (some (([] : List Int), 0, 25)))))) else (some (([] : List Int), 0, 2))) = some (r1, r2, r3) := H
  have A2 := Aside0.mk A20
  clear A20
  by_cases c3 : t132 = true
  · subst c3
    have H1 : ((r_Era.f l0).bind fun t133 => (if (t133.length : Int) > 6 then (some (([] : List Int), 0, 25)) else ((awardingbodyref18_search.f k l0 t133 (wrap64 (Int.tdiv (wrap64 (6 - (t133.length : Int))) 2)) 0).bind fun bt136 => (if bt136.2 = true then ((g_dec2.f l0 bt136.1).bind fun bt140 => (some (bt140.1, bt140.2, 0))) else (some (([] : List Int), 0, 25)))))) = some (r1, r2, r3) := by rw [if_pos rfl] at H; exact H
    clear H
    have H := H1
    clear H1
    replace H := Option.bind_eq_some_iff.mp H
    obtain ⟨t133, A40, H⟩ := H
    replace H : (if (t133.length : Int) > 6 then (some (([] : List Int), 0, 25)) else ((awardingbodyref18_search.f k l0 t133 (wrap64 (Int.tdiv (wrap64 (6 - (t133.length : Int))) 2)) 0).bind fun bt136 => (if bt136.2 = true then ((g_dec2.f l0 bt136.1).bind fun bt140 => (some (bt140.1, bt140.2, 0))) else (some (([] : List Int), 0, 25))))) = some (r1, r2, r3) := H
    have A4 := Aside0.mk A40
    clear A40
    by_cases c5 : (t133.length : Int) > 6
    · rw [if_pos c5] at H
      have c5b0 : decide (6 < (t133.length : Int)) = true := decide_eq_true c5
      have c5b1 : decide (6 < t133.length) = true := decide_eq_true (by omega)
      clear c5
      simp only [Option.some.injEq, Prod.mk.injEq] at H
      obtain ⟨rfl, rfl, rfl⟩ := H
      go_enter Try.func35, Try.ntmps35
      go_wp2_with (first | ((with_reducible refine gate_callee (f := 51) rfl ?_); refine goesL_ (some 9) rfl rfl Try.func51 (by kernel_rfl) rfl #[.slice A0 l0.length c0, .int .i64 (-1)] rfl (by (try simp only [List.map_toArray, List.map_cons, List.map_nil]); first | done | rfl | (simp only [List.length_drop, List.length_take]; rfl)) ?_; (with_reducible refine (r_symbols.calls _ _ l0 (-1) true _ ?side1 ?side2 A2.out).mono ?_); (case side1 => repeat (first | exact HR0.out | (with_reducible refine Kd.C_alloc ?_ _) | (with_reducible refine Kd.C_drewN ?_ _) | (with_reducible refine Kd.C_drew ?_))); (case side2 => exact HC0.out); rintro e w' ⟨rfl, ⟨nd, rfl⟩⟩; refine ⟨_, rfl, ?_⟩) | ((with_reducible refine gate_callee (f := 54) rfl ?_); refine goesL_ (some 12) rfl rfl Try.func54 (by kernel_rfl) rfl #[.slice A0 l0.length c0] rfl (by (try simp only [List.map_toArray, List.map_cons, List.map_nil]); first | done | rfl | (simp only [List.length_drop, List.length_take]; rfl)) ?_; (with_reducible refine (r_Era.calls _ _ l0 t133 _ ?side1 ?side2 A4.out).mono ?_); (case side1 => repeat (first | exact HR0.out | (with_reducible refine Kd.C_alloc ?_ _) | (with_reducible refine Kd.C_drewN ?_ _) | (with_reducible refine Kd.C_drew ?_))); (case side2 => exact HC0.out); rintro e w6 ⟨v134, rfl, ho0, hb⟩; refine ⟨_, rfl, ?_⟩; have n0_ := Aside0.mk (Kd.R_lower ho0 (below_size (by repeat (first | (with_reducible first | exact HB.out | apply below_alloc | apply pw_below_drewN | apply below_drew1) | exact HB.out)))); have n1_ := Aside0.mk (below_step (by repeat (first | (with_reducible first | exact HB.out | apply below_alloc | apply pw_below_drewN | apply below_drew1) | exact HB.out)) hb); clear HB; have HO135 := n0_; have HB := n1_; clear n0_ n1_; (try clear hb); (try clear hb2); (try clear hk); (try clear hi); (try clear ho0); obtain ⟨Ao7, co7, eo7⟩ := Kd.R_slice HO135.out; subst eo7))
      go_ret3
      exact ⟨_, by first | rfl | (simp [errW_none, errW_some] <;> rfl) | (simp [*, errW_none, errW_some] <;> rfl), by first | exact Kd.R_nil _ _ _ _ _ | exact Kd.N_nil _ _ _ _ _ | exact Kd.V_nil _ _ _ _ _ | exact Kd.Q_nil _ _ _ _ _ | exact Kd.S_nil _ _ _ _ _, by repeat (first | (with_reducible first | exact HB.out | apply below_alloc | apply pw_below_drewN | apply below_drew1) | exact HB.out)⟩
    · rw [if_neg c5] at H
      have c5b0 : decide (6 < (t133.length : Int)) = false := decide_eq_false c5
      have c5b1 : decide (6 < t133.length) = false := decide_eq_false (by omega)
      clear c5
      replace H := Option.bind_eq_some_iff.mp H
      obtain ⟨⟨t136, t137⟩, A80, H⟩ := H
      replace H : (if t137 = true then ((g_dec2.f l0 t136).bind fun bt140 => (some (bt140.1, bt140.2, 0))) else (some (([] : List Int), 0, 25))) = some (r1, r2, r3) := H
      have A8 := Aside0.mk A80
      clear A80
      by_cases c9 : t137 = true
      · subst c9
        have H1 : ((g_dec2.f l0 t136).bind fun bt140 => (some (bt140.1, bt140.2, 0))) = some (r1, r2, r3) := by rw [if_pos rfl] at H; exact H
        clear H
        have H := H1
        clear H1
        replace H := Option.bind_eq_some_iff.mp H
        obtain ⟨⟨t140, t141⟩, A100, H⟩ := H
        replace H : (some (t140, t141, 0)) = some (r1, r2, r3) := H
        have A10 := Aside0.mk A100
        clear A100
        simp only [Option.some.injEq, Prod.mk.injEq] at H
        obtain ⟨rfl, rfl, rfl⟩ := H
        go_enter Try.func35, Try.ntmps35
        go_wp2_with (first | ((with_reducible refine gate_callee (f := 51) rfl ?_); refine goesL_ (some 9) rfl rfl Try.func51 (by kernel_rfl) rfl #[.slice A0 l0.length c0, .int .i64 (-1)] rfl (by (try simp only [List.map_toArray, List.map_cons, List.map_nil]); first | done | rfl | (simp only [List.length_drop, List.length_take]; rfl)) ?_; (with_reducible refine (r_symbols.calls _ _ l0 (-1) true _ ?side1 ?side2 A2.out).mono ?_); (case side1 => repeat (first | exact HR0.out | (with_reducible refine Kd.C_alloc ?_ _) | (with_reducible refine Kd.C_drewN ?_ _) | (with_reducible refine Kd.C_drew ?_))); (case side2 => exact HC0.out); rintro e w' ⟨rfl, ⟨nd, rfl⟩⟩; refine ⟨_, rfl, ?_⟩) | ((with_reducible refine gate_callee (f := 54) rfl ?_); refine goesL_ (some 12) rfl rfl Try.func54 (by kernel_rfl) rfl #[.slice A0 l0.length c0] rfl (by (try simp only [List.map_toArray, List.map_cons, List.map_nil]); first | done | rfl | (simp only [List.length_drop, List.length_take]; rfl)) ?_; (with_reducible refine (r_Era.calls _ _ l0 t133 _ ?side1 ?side2 A4.out).mono ?_); (case side1 => repeat (first | exact HR0.out | (with_reducible refine Kd.C_alloc ?_ _) | (with_reducible refine Kd.C_drewN ?_ _) | (with_reducible refine Kd.C_drew ?_))); (case side2 => exact HC0.out); rintro e w11 ⟨v134, rfl, ho0, hb⟩; refine ⟨_, rfl, ?_⟩; have n0_ := Aside0.mk (Kd.R_lower ho0 (below_size (by repeat (first | (with_reducible first | exact HB.out | apply below_alloc | apply pw_below_drewN | apply below_drew1) | exact HB.out)))); have n1_ := Aside0.mk (below_step (by repeat (first | (with_reducible first | exact HB.out | apply below_alloc | apply pw_below_drewN | apply below_drew1) | exact HB.out)) hb); clear HB; have HO135 := n0_; have HB := n1_; clear n0_ n1_; (try clear hb); (try clear hb2); (try clear hk); (try clear hi); (try clear ho0); obtain ⟨Ao12, co12, eo12⟩ := Kd.R_slice HO135.out; subst eo12) | ((with_reducible refine gate_callee (f := 55) rfl ?_); refine goesL_ (some 23) rfl rfl Try.func55 (by kernel_rfl) rfl #[.slice A0 l0.length c0, .slice Ao12 t133.length co12, .int .i64 (wrap64 (Int.tdiv (wrap64 (6 - (t133.length : Int))) 2)), .int .i64 0] rfl (by (try simp only [List.map_toArray, List.map_cons, List.map_nil]); first | done | rfl | (simp only [List.length_drop, List.length_take]; rfl)) ?_; (with_reducible refine (awardingbodyref18_search.calls k _ _ l0 _ _ t133 (wrap64 (Int.tdiv (wrap64 (6 - (t133.length : Int))) 2)) 0 t136 true _ ?side1 ?side2 ?side3 ?side4 A8.out).mono ?_); (case side1 => repeat (first | exact (Kd.C_below HR0.out HB.out) | (with_reducible refine Kd.C_alloc ?_ _) | (with_reducible refine Kd.C_drewN ?_ _) | (with_reducible refine Kd.C_drew ?_))); (case side2 => exact HC0.out); (case side3 => repeat (first | exact (Kd.R_reads' HO135.out).2.2 | (with_reducible refine Kd.C_alloc ?_ _) | (with_reducible refine Kd.C_drewN ?_ _) | (with_reducible refine Kd.C_drew ?_))); (case side4 => exact (Kd.R_reads' HO135.out).2.1); rintro e w13 ⟨v138, rfl, ho0, hb⟩; refine ⟨_, rfl, ?_⟩; have n0_ := Aside0.mk (Kd.R_elder' (by (with_reducible repeat (first | apply Kd.R_alloc | apply Kd.R_drewN | apply Kd.R_drew)); exact HO135.out) (Kd.R_base ho0) hb); have n1_ := Aside0.mk (Kd.R_lower (Kd.R_new' ho0 (Kd.R_lt (by (with_reducible repeat (first | apply Kd.R_alloc | apply Kd.R_drewN | apply Kd.R_drew)); exact HO135.out))) (below_size (by repeat (first | (with_reducible first | exact HB.out | apply below_alloc | apply pw_below_drewN | apply below_drew1) | exact HB.out)))); have n2_ := Aside0.mk (below_step (by repeat (first | (with_reducible first | exact HB.out | apply below_alloc | apply pw_below_drewN | apply below_drew1) | exact HB.out)) hb); clear HO135; clear HB; have HO135 := n0_; have HO139 := n1_; have HB := n2_; clear n0_ n1_ n2_; (try clear hb); (try clear hb2); (try clear hk); (try clear hi); (try clear ho0); obtain ⟨Ao14, co14, eo14⟩ := Kd.R_slice HO139.out; subst eo14))
        have D2 := Aside0.mk (g_dec2.some A10.out)
        obtain ⟨ji, hji⟩ : ∃ j_ : Int, (wrap64 ((t136.length : Int) - 6)) = j_ := ⟨_, rfl⟩
        have hjin : ji.toNat = t136.length - 6 := by have := D2.out.1; have := D2.out.2.1; rw [← hji]; unfold wrap64; omega
        have hj0 : 0 ≤ ji := by have := D2.out.1; have := D2.out.2.1; rw [← hji]; unfold wrap64; omega
        have hj1 : ji ≤ ((t136.length : Int) : Int) := by have := D2.out.1; have := D2.out.2.1; rw [← hji]; unfold wrap64; omega
        have hjiw : (IntKind.i64.wrap ((t136.length : Int) - 6)) = ji := (i64_w _).trans hji
        obtain ⟨i027, hi027, _, hsz27, _⟩ := info_parts info3
        have hcut := cut_to (P := Try.prog) 27 3 .i64 Try.underlying27 hi027 Ao14 t136.length co14 ji hj0 hj1 (Kd.R_reads' HO139.out).2.1
        replace hj0 := eq_true hj0
        replace hj1 := eq_true hj1
        have HBd := Aside0.mk (below_drew1 HB.out)
        have HOd := Aside0.mk (Kd.R_drew HO139.out)
        refine start_ (n := 11) (S := fun w' => True) (ds := []) #[false, false, false, false, false, false, false, false, false, false, false] (by kernel_rfl) rfl rfl (trivial) (fun hHeld => ?_)
        refine pure_ (i := 0) (N := some 28) (v := ?_) (a' := ?_) #[true, false, false, false, false, false, false, false, false, false, false] rfl rfl (by kernel_rfl) (fun _ _ _ h => h) (Or.inl ⟨by rfl, ?_⟩) ?_ ?_
        rotate_left
        · intro w'
          go_simp
          with_reducible rfl
        rotate_left
        · simp only [Act.put, List.setIfInBounds_toArray, List.set_cons_zero, List.set_cons_succ, i64_w, i32_w]
          rfl
        refine pure_ (i := 1) (N := some 29) (v := ?_) (a' := ?_) #[true, true, false, false, false, false, false, false, false, false, false] rfl rfl (by kernel_rfl) (fun _ _ _ h => h) (Or.inl ⟨by rfl, ?_⟩) ?_ ?_
        rotate_left
        · intro w'
          go_simp
          with_reducible rfl
        rotate_left
        · simp only [Act.put, List.setIfInBounds_toArray, List.set_cons_zero, List.set_cons_succ, i64_w, i32_w]
          rfl
        refine pure_ (i := 2) (N := some 30) (v := ?_) (a' := ?_) #[true, true, true, false, false, false, false, false, false, false, false] rfl rfl (by kernel_rfl) (fun _ _ _ h => h) (Or.inl ⟨by rfl, ?_⟩) ?_ ?_
        rotate_left
        · intro w'
          go_simp
          with_reducible rfl
        rotate_left
        · simp only [Act.put, List.setIfInBounds_toArray, List.set_cons_zero, List.set_cons_succ, i64_w, i32_w]
          rfl
        refine pure_ (i := 3) (N := some 31) (v := ?_) (a' := ?_) #[true, true, true, true, false, false, false, false, false, false, false] rfl rfl (by kernel_rfl) (fun _ _ _ h => h) (Or.inl ⟨by rfl, ?_⟩) ?_ ?_
        rotate_left
        · intro w'
          go_simp
          with_reducible rfl
        rotate_left
        · simp only [Act.put, List.setIfInBounds_toArray, List.set_cons_zero, List.set_cons_succ, i64_w, i32_w]
          rfl
        refine pure_ (i := 4) (N := some 32) (v := ?_) (a' := ?_) #[true, true, true, true, true, false, false, false, false, false, false] rfl rfl (by kernel_rfl) (fun _ _ _ h => h) (Or.inl ⟨by rfl, ?_⟩) ?_ ?_
        rotate_left
        · intro w'
          go_simp
          with_reducible rfl
        rotate_left
        · simp only [Act.put, List.setIfInBounds_toArray, List.set_cons_zero, List.set_cons_succ, i64_w, i32_w]
          rfl
        refine pure_ (i := 5) (N := some 33) (v := ?_) (a' := ?_) #[true, true, true, true, true, true, false, false, false, false, false] rfl rfl (by kernel_rfl) (fun _ _ _ h => h) (Or.inl ⟨by rfl, ?_⟩) ?_ ?_
        rotate_left
        · intro w'
          go_simp
          with_reducible rfl
        rotate_left
        · simp only [Act.put, List.setIfInBounds_toArray, List.set_cons_zero, List.set_cons_succ, i64_w, i32_w]
          rfl
        refine pure_ (i := 6) (N := some 34) (v := ?_) (a' := ?_) #[true, true, true, true, true, true, true, false, false, false, false] rfl rfl (by kernel_rfl) (fun _ _ _ h => h) (Or.inl ⟨by rfl, ?_⟩) ?_ ?_
        rotate_left
        · intro w'
          go_simp
          with_reducible rfl
        rotate_left
        · simp only [Act.put, List.setIfInBounds_toArray, List.set_cons_zero, List.set_cons_succ, i64_w, i32_w]
          rfl
        refine one_ (i := 7) (N := some 35) #[true, true, true, true, true, true, true, true, false, false, false] rfl rfl (by kernel_rfl) (by decide) (fun K hK => ?_)
        refine goes_ Try.func56 (by kernel_rfl) rfl #[.slice A0 l0.length c0, .slice Ao14 t136.length co14] (by rfl) rfl rfl (by simp only [List.map_toArray, List.map_cons, List.map_nil]; rfl) ?_
        with_reducible refine (r_Err.calls _ _ l0 _ _ t136 t141 _ (Kd.C_below HR0.out HBd.out) HC0.out (Kd.R_reads' HOd.out).2.2 (Kd.R_reads' HOd.out).2.1 D2.out.2.2.2).mono ?_
        rintro e w' ⟨rfl, ⟨nd, rfl⟩⟩
        refine ⟨_, rfl, ?_⟩
        refine hK.out _ _ (trivial) (fun hHeld => ?_)
        clear hK K
        refine norm_ (a' := ?_) ?_ ?_
        rotate_left
        · show Act.put _ (some 35) _ = _
          simp only [Act.put, List.setIfInBounds_toArray, List.set_cons_zero, List.set_cons_succ, i64_w, i32_w]
          rfl
        refine pure_ (i := 8) (N := some 2) (v := ?_) (a' := ?_) #[true, true, true, true, true, true, true, true, true, false, false] rfl rfl (by kernel_rfl) (fun _ _ _ h => h) (Or.inl ⟨by rfl, ?_⟩) ?_ ?_
        rotate_left
        · intro w'
          go_simp
          with_reducible rfl
        rotate_left
        · simp only [Act.put, List.setIfInBounds_toArray, List.set_cons_zero, List.set_cons_succ, i64_w, i32_w]
          rfl
        refine pure_ (i := 9) (N := some 3) (v := ?_) (a' := ?_) #[true, true, true, true, true, true, true, true, true, true, false] rfl rfl (by kernel_rfl) (fun _ _ _ h => h) (Or.inl ⟨by rfl, ?_⟩) ?_ ?_
        rotate_left
        · intro w'
          go_simp
          with_reducible rfl
        rotate_left
        · simp only [Act.put, List.setIfInBounds_toArray, List.set_cons_zero, List.set_cons_succ, i64_w, i32_w]
          rfl
        refine pure_ (i := 10) (N := some 4) (v := ?_) (a' := ?_) #[true, true, true, true, true, true, true, true, true, true, true] rfl rfl (by kernel_rfl) (fun _ _ _ h => h) (Or.inl ⟨by rfl, ?_⟩) ?_ ?_
        rotate_left
        · intro w'
          go_simp
          with_reducible rfl
        rotate_left
        · simp only [Act.put, List.setIfInBounds_toArray, List.set_cons_zero, List.set_cons_succ, i64_w, i32_w]
          rfl
        refine done_ (by kernel_rfl) ?_
        go_wp2
        go_ret3
        exact ⟨_, rfl, by rw [D2.out.2.2.1, ← hjin]; exact Kd.R_mono (Kd.R_take (m := ji.toNat) (Kd.R_drewN HOd.out nd) (by omega)) (fun _ _ => trivial), pw_below_drewN HBd.out nd⟩
      · replace c9 := Bool.eq_false_iff.mpr c9
        subst c9
        have H1 : (some (([] : List Int), 0, 25)) = some (r1, r2, r3) := by rw [if_neg (show ¬ (false = true) by decide)] at H; exact H
        clear H
        have H := H1
        clear H1
        simp only [Option.some.injEq, Prod.mk.injEq] at H
        obtain ⟨rfl, rfl, rfl⟩ := H
        go_enter Try.func35, Try.ntmps35
        go_wp2_with (first | ((with_reducible refine gate_callee (f := 51) rfl ?_); refine goesL_ (some 9) rfl rfl Try.func51 (by kernel_rfl) rfl #[.slice A0 l0.length c0, .int .i64 (-1)] rfl (by (try simp only [List.map_toArray, List.map_cons, List.map_nil]); first | done | rfl | (simp only [List.length_drop, List.length_take]; rfl)) ?_; (with_reducible refine (r_symbols.calls _ _ l0 (-1) true _ ?side1 ?side2 A2.out).mono ?_); (case side1 => repeat (first | exact HR0.out | (with_reducible refine Kd.C_alloc ?_ _) | (with_reducible refine Kd.C_drewN ?_ _) | (with_reducible refine Kd.C_drew ?_))); (case side2 => exact HC0.out); rintro e w' ⟨rfl, ⟨nd, rfl⟩⟩; refine ⟨_, rfl, ?_⟩) | ((with_reducible refine gate_callee (f := 54) rfl ?_); refine goesL_ (some 12) rfl rfl Try.func54 (by kernel_rfl) rfl #[.slice A0 l0.length c0] rfl (by (try simp only [List.map_toArray, List.map_cons, List.map_nil]); first | done | rfl | (simp only [List.length_drop, List.length_take]; rfl)) ?_; (with_reducible refine (r_Era.calls _ _ l0 t133 _ ?side1 ?side2 A4.out).mono ?_); (case side1 => repeat (first | exact HR0.out | (with_reducible refine Kd.C_alloc ?_ _) | (with_reducible refine Kd.C_drewN ?_ _) | (with_reducible refine Kd.C_drew ?_))); (case side2 => exact HC0.out); rintro e w16 ⟨v134, rfl, ho0, hb⟩; refine ⟨_, rfl, ?_⟩; have n0_ := Aside0.mk (Kd.R_lower ho0 (below_size (by repeat (first | (with_reducible first | exact HB.out | apply below_alloc | apply pw_below_drewN | apply below_drew1) | exact HB.out)))); have n1_ := Aside0.mk (below_step (by repeat (first | (with_reducible first | exact HB.out | apply below_alloc | apply pw_below_drewN | apply below_drew1) | exact HB.out)) hb); clear HB; have HO135 := n0_; have HB := n1_; clear n0_ n1_; (try clear hb); (try clear hb2); (try clear hk); (try clear hi); (try clear ho0); obtain ⟨Ao17, co17, eo17⟩ := Kd.R_slice HO135.out; subst eo17) | ((with_reducible refine gate_callee (f := 55) rfl ?_); refine goesL_ (some 23) rfl rfl Try.func55 (by kernel_rfl) rfl #[.slice A0 l0.length c0, .slice Ao17 t133.length co17, .int .i64 (wrap64 (Int.tdiv (wrap64 (6 - (t133.length : Int))) 2)), .int .i64 0] rfl (by (try simp only [List.map_toArray, List.map_cons, List.map_nil]); first | done | rfl | (simp only [List.length_drop, List.length_take]; rfl)) ?_; (with_reducible refine (awardingbodyref18_search.calls k _ _ l0 _ _ t133 (wrap64 (Int.tdiv (wrap64 (6 - (t133.length : Int))) 2)) 0 t136 false _ ?side1 ?side2 ?side3 ?side4 A8.out).mono ?_); (case side1 => repeat (first | exact (Kd.C_below HR0.out HB.out) | (with_reducible refine Kd.C_alloc ?_ _) | (with_reducible refine Kd.C_drewN ?_ _) | (with_reducible refine Kd.C_drew ?_))); (case side2 => exact HC0.out); (case side3 => repeat (first | exact (Kd.R_reads' HO135.out).2.2 | (with_reducible refine Kd.C_alloc ?_ _) | (with_reducible refine Kd.C_drewN ?_ _) | (with_reducible refine Kd.C_drew ?_))); (case side4 => exact (Kd.R_reads' HO135.out).2.1); rintro e w18 ⟨v138, rfl, ho0, hb⟩; refine ⟨_, rfl, ?_⟩; have n0_ := Aside0.mk (Kd.R_elder' (by (with_reducible repeat (first | apply Kd.R_alloc | apply Kd.R_drewN | apply Kd.R_drew)); exact HO135.out) (Kd.R_base ho0) hb); have n1_ := Aside0.mk (Kd.R_lower (Kd.R_new' ho0 (Kd.R_lt (by (with_reducible repeat (first | apply Kd.R_alloc | apply Kd.R_drewN | apply Kd.R_drew)); exact HO135.out))) (below_size (by repeat (first | (with_reducible first | exact HB.out | apply below_alloc | apply pw_below_drewN | apply below_drew1) | exact HB.out)))); have n2_ := Aside0.mk (below_step (by repeat (first | (with_reducible first | exact HB.out | apply below_alloc | apply pw_below_drewN | apply below_drew1) | exact HB.out)) hb); clear HO135; clear HB; have HO135 := n0_; have HO139 := n1_; have HB := n2_; clear n0_ n1_ n2_; (try clear hb); (try clear hb2); (try clear hk); (try clear hi); (try clear ho0)))
        go_ret3
        exact ⟨_, by first | rfl | (simp [errW_none, errW_some] <;> rfl) | (simp [*, errW_none, errW_some] <;> rfl), by first | exact Kd.R_nil _ _ _ _ _ | exact Kd.N_nil _ _ _ _ _ | exact Kd.V_nil _ _ _ _ _ | exact Kd.Q_nil _ _ _ _ _ | exact Kd.S_nil _ _ _ _ _, by repeat (first | (with_reducible first | exact HB.out | apply below_alloc | apply pw_below_drewN | apply below_drew1) | exact HB.out)⟩
  · replace c3 := Bool.eq_false_iff.mpr c3
    subst c3
    have H1 : (some (([] : List Int), 0, 2)) = some (r1, r2, r3) := by rw [if_neg (show ¬ (false = true) by decide)] at H; exact H
    clear H
    have H := H1
    clear H1
    simp only [Option.some.injEq, Prod.mk.injEq] at H
    obtain ⟨rfl, rfl, rfl⟩ := H
    go_enter Try.func35, Try.ntmps35
    go_wp2_with (first | ((with_reducible refine gate_callee (f := 51) rfl ?_); refine goesL_ (some 9) rfl rfl Try.func51 (by kernel_rfl) rfl #[.slice A0 l0.length c0, .int .i64 (-1)] rfl (by (try simp only [List.map_toArray, List.map_cons, List.map_nil]); first | done | rfl | (simp only [List.length_drop, List.length_take]; rfl)) ?_; (with_reducible refine (r_symbols.calls _ _ l0 (-1) false _ ?side1 ?side2 A2.out).mono ?_); (case side1 => repeat (first | exact HR0.out | (with_reducible refine Kd.C_alloc ?_ _) | (with_reducible refine Kd.C_drewN ?_ _) | (with_reducible refine Kd.C_drew ?_))); (case side2 => exact HC0.out); rintro e w' ⟨rfl, ⟨nd, rfl⟩⟩; refine ⟨_, rfl, ?_⟩))
    go_ret3
    exact ⟨_, by first | rfl | (simp [errW_none, errW_some] <;> rfl) | (simp [*, errW_none, errW_some] <;> rfl), by first | exact Kd.R_nil _ _ _ _ _ | exact Kd.N_nil _ _ _ _ _ | exact Kd.V_nil _ _ _ _ _ | exact Kd.Q_nil _ _ _ _ _ | exact Kd.S_nil _ _ _ _ _, by repeat (first | (with_reducible first | exact HB.out | apply below_alloc | apply pw_below_drewN | apply below_drew1) | exact HB.out)⟩
end Go.Proofs.Ytpkhgapifnjbeaa.V
end
section
namespace Go.Proofs.Ytpkhgapifnjbeaa.V
open Go.RowKit Go.Proofs.Ytpkhgapifnjbeaa.G Go.Proofs.Ytpkhgapifnjbeaa.Rs Go.Proofs.YtpkhgapifnjbeaaW.PrintWords Go.Proofs.YtpkhgapifnjbeaaW.PrintLast Go.Proofs.YtpkhgapifnjbeaaW.PrintMore
attribute [local go_sem] max2_int min2_int max_two min_two max_three min_three max_four min_four
set_option linter.unusedVariables false
set_option linter.unusedSimpArgs false
end Go.Proofs.Ytpkhgapifnjbeaa.V
end
section
namespace Go.Proofs.Ytpkhgapifnjbeaa.G
set_option linter.unusedVariables false
set_option linter.unusedSimpArgs false
open Go.RowKit Go.Proofs.YtpkhgapifnjbeaaW.PrintWords Go.Proofs.YtpkhgapifnjbeaaW.PrintLast Go.Proofs.YtpkhgapifnjbeaaW.PrintMore Go.Proofs.Ytpkhgapifnjbeaa.Rs
def isData (d : List Int) : Bool := decide (1 ≤ d.length ∧ d.length ≤ 9) && d.all isEl
def encPs (n : Nat) : List Int := [(n : Int), (n : Int) + 1, (n : Int) + 2, (n : Int) + 3, (n : Int) + 4, (n : Int) + 5]
def encW (d : List Int) : List Int := d ++ List.replicate 6 (-1)
def encC (d : List Int) : List Int := fillR (encW d) (encPs d.length)
def encS (d : List Int) : List Int × Int := if isData d = true then (encC d, 0) else ([], 2)
theorem encPs_at (n k : Nat) (hk : k < 6) : (encPs n).getD k 0 = (n : Int) + k := by
  rcases (show k = 0 ∨ k = 1 ∨ k = 2 ∨ k = 3 ∨ k = 4 ∨ k = 5 from by omega) with rfl | rfl | rfl | rfl | rfl | rfl <;> simp [encPs]
theorem encPs_PS (n k : Nat) (hk : k < 6) : PS (encPs n) k = n + k := by
  unfold PS; rw [encPs_at n k hk]; omega
theorem encPs_len (n : Nat) : (encPs n).length = 6 := rfl
theorem encPs_D (n L : Nat) (hL : L = n + 6) : placesD L (encPs n) := by
  refine ⟨⟨by rw [encPs_len]; exact Nat.le_refl _, fun k hk => ?_⟩, fun i j hi hj e => ?_⟩
  · rw [encPs_len] at hk; rw [encPs_at n k hk]; omega
  · rw [encPs_len] at hi hj; rw [encPs_PS n i hi, encPs_PS n j hj] at e; omega
theorem encW_len (d : List Int) : (encW d).length = d.length + 6 := by simp [encW]
theorem data_parts {d : List Int} (h : isData d = true) : 1 ≤ d.length ∧ d.length ≤ 9 ∧ ∀ x ∈ d, isEl x = true := by
  unfold isData at h
  simp only [Bool.and_eq_true, decide_eq_true_eq, List.all_eq_true] at h
  exact ⟨h.1.1, h.1.2, h.2⟩
theorem encW_hi (d : List Int) (k : Nat) (hk : k < 6) : (encW d).getD (d.length + k) 0 = -1 := by
  unfold encW
  rw [List.getD_eq_getElem?_getD, List.getElem?_append_right (by omega), Nat.add_sub_cancel_left, List.getElem?_replicate, if_pos hk]; rfl
theorem encW_lo (d : List Int) (i : Nat) (hi : i < d.length) : (encW d).getD i 0 = d.getD i 0 := by
  unfold encW
  rw [List.getD_eq_getElem?_getD, List.getElem?_append_left hi, ← List.getD_eq_getElem?_getD]
theorem enc_fill {d : List Int} (h : isData d = true) : FillOf (encW d) (encPs d.length) (encC d) := by
  obtain ⟨h1, h2, h3⟩ := data_parts h
  have hl : (encW d).length ≤ 15 := by rw [encW_len]; omega
  have hp := encPs_D d.length (encW d).length (encW_len d)
  have hw : ∀ k, k < (encPs d.length).length → -1 ≤ (encW d).getD (PS (encPs d.length) k) 0 ∧ (encW d).getD (PS (encPs d.length) k) 0 ≤ 31 := by
    intro k hk
    rw [encPs_len] at hk
    rw [encPs_PS _ _ hk, encW_hi d k hk]; omega
  refine (fillR_is hl hp hw).resolve_left fun he => ?_
  have hs := solR_square (n := 6) (M := matOf (matFill (encW d) (encPs d.length) 6)) (el_fill (encW d) (encPs d.length) (Nat.le_refl _)) (indep_fill hl hp)
  have : (fillR (encW d) (encPs d.length)).length = (encW d).length := by
    unfold fillR
    rw [if_pos (show (solR 6 (encPs d.length).length (matOf (matFill (encW d) (encPs d.length) 6))).2 = true from hs), putTo_length]
  rw [he, encW_len] at this
  simp at this
theorem enc_len {d : List Int} (h : isData d = true) : (encC d).length = d.length + 6 := by rw [(enc_fill h).len, encW_len]
theorem enc_lo {d : List Int} (h : isData d = true) (i : Nat) (hi : i < d.length) : (encC d).getD i 0 = d.getD i 0 := by
  rw [(enc_fill h).agree i (by rw [encW_len]; omega) (fun k hk => by rw [encPs_len] at hk; rw [encPs_PS _ _ hk]; omega), encW_lo d i hi]
theorem mem_getD {d : List Int} {x : Int} (h : x ∈ d) : ∃ i, i < d.length ∧ d.getD i 0 = x := by
  obtain ⟨i, hi, e⟩ := List.mem_iff_getElem.1 h
  exact ⟨i, hi, by rw [List.getD_eq_getElem?_getD, List.getElem?_eq_getElem hi]; exact e⟩
theorem getD_mem {d : List Int} {i : Nat} (h : i < d.length) : d.getD i 0 ∈ d := by
  rw [List.getD_eq_getElem?_getD, List.getElem?_eq_getElem h]; exact List.getElem_mem _
theorem enc_el {d : List Int} (h : isData d = true) : ∀ x ∈ encC d, isEl x = true := by
  obtain ⟨h1, h2, h3⟩ := data_parts h
  intro x hx
  obtain ⟨i, hi, rfl⟩ := mem_getD hx
  rw [enc_len h] at hi
  rcases Nat.lt_or_ge i d.length with hd | hd
  · rw [enc_lo h i hd]; exact h3 _ (getD_mem hd)
  · have := (enc_fill h).els (i - d.length) (by rw [encPs_len]; omega)
    rwa [encPs_PS _ _ (by omega), show d.length + (i - d.length) = i from by omega] at this
theorem word_of {c : List Int} {low : Int} (hl : 7 ≤ c.length ∧ c.length ≤ 15) (h : ∀ x ∈ c, low ≤ x ∧ x ≤ 31) : isWord c low = true := by
  unfold isWord
  simp only [Bool.and_eq_true, decide_eq_true_eq, Bool.not_eq_true', List.any_eq_false]
  refine ⟨hl, fun x hx => ?_⟩
  have := h x hx
  simp [badSym]; omega
theorem word_parts {c : List Int} {low : Int} (h : isWord c low = true) : 7 ≤ c.length ∧ c.length ≤ 15 ∧ ∀ x ∈ c, low ≤ x ∧ x ≤ 31 := by
  unfold isWord at h
  simp only [Bool.and_eq_true, decide_eq_true_eq, Bool.not_eq_true', List.any_eq_false] at h
  refine ⟨h.1.1, h.1.2, fun x hx => ?_⟩
  have := h.2 x hx
  simp [badSym] at this
  omega
theorem enc_code {d : List Int} (h : isData d = true) : isCode (encC d) = true := by
  obtain ⟨h1, h2, h3⟩ := data_parts h
  exact code_of (word_of (by rw [enc_len h]; omega) (fun x hx => by have := (isEl_iff x).1 (enc_el h x hx); omega)) (enc_fill h).cw
theorem enc_take {d : List Int} (h : isData d = true) : (encC d).take d.length = d := by
  apply List.ext_getElem (by rw [List.length_take, enc_len h]; omega)
  intro i h1 h2
  rw [List.getElem_take]
  have := enc_lo h i h2
  rwa [List.getD_eq_getElem?_getD, List.getD_eq_getElem?_getD, List.getElem?_eq_getElem h2, List.getElem?_eq_getElem (by rw [enc_len h]; omega)] at this
section
open Go.Proofs.Ytpkhgapifnjbeaa.E
theorem index_l0 (l : List Int) (hl : l.length ≤ 1000) : ∀ (d i k : Nat), i + d = l.length → d < k → (∀ j, j < i → l.getD j 0 ≠ -1) → ∃ v, slices_Index_int_int.l0 k l (-1) (l.length : Int) (i : Int) = some v ∧ (0 ≤ v ↔ ∃ x ∈ l, x = -1) := by
  intro d
  induction d with
  | zero =>
    intro i k hi hk hz
    obtain ⟨k, rfl⟩ : ∃ m, k = m + 1 := ⟨k - 1, by omega⟩
    simp only [slices_Index_int_int.l0]
    rw [if_neg (by omega)]
    refine ⟨-1, rfl, by omega, fun ⟨x, hx, e⟩ => ?_⟩
    obtain ⟨j, hj, rfl⟩ := mem_getD hx
    exact absurd e (hz j (by omega))
  | succ d ih =>
    intro i k hi hk hz
    obtain ⟨k, rfl⟩ : ∃ m, k = m + 1 := ⟨k - 1, by omega⟩
    have hs : wrap64 ((i : Int) + 1) = ((i + 1 : Nat) : Int) := by unfold wrap64; omega
    simp only [slices_Index_int_int.l0]
    rw [if_pos (by omega), if_pos (by omega), if_pos (by omega), rd_cast]
    by_cases h0 : -1 = l.getD i 0
    · rw [if_pos h0]
      exact ⟨i, rfl, fun _ => ⟨l.getD i 0, getD_mem (by omega), h0.symm⟩, fun _ => by omega⟩
    · rw [if_neg h0, hs]
      exact ih (i + 1) k (by omega) (by omega) fun j hj => by
        rcases Nat.lt_or_ge j i with h | h
        · exact hz j h
        · rw [show j = i from by omega]; exact fun q => h0 q.symm
theorem contains_f (l : List Int) (hl : l.length ≤ 1000) (k : Nat) (hk : 1002 ≤ k) : slices_Contains_int_int.f k l (-1) = some (l.any fun x => decide (x = -1)) := by
  unfold slices_Contains_int_int.f slices_Index_int_int.f
  obtain ⟨v, h1, h2⟩ := index_l0 l hl l.length 0 k (by omega) (by omega) (fun j hj => by omega)
  rw [show ((0 : Nat) : Int) = 0 from rfl] at h1
  rw [h1]
  simp only [Option.bind_some, Option.some.injEq]
  rw [Bool.eq_iff_iff]
  simp only [decide_eq_true_eq, List.any_eq_true]
  exact h2
def encTo (n : Nat) : Nat → List Int
  | 0 => List.replicate 6 0
  | i + 1 => (encTo n i).set i ((n : Int) + i)
theorem encTo_len (n i : Nat) : (encTo n i).length = 6 := by
  induction i with
  | zero => rfl
  | succ i ih => simp only [encTo, List.length_set, ih]
theorem encTo_six (n : Nat) : encTo n 6 = encPs n := by simp [encTo, encPs, List.replicate]
theorem enc_l0 (d : List Int) (hd : d.length ≤ 9) : ∀ (e i k : Nat), i + e = 6 → e < k → rscode_Encode.l0 k d (encW d) (encTo d.length i) 6 (i : Int) = some (encC d, 0) := by
  intro e
  induction e with
  | zero =>
    intro i k hi hk
    obtain ⟨k, rfl⟩ : ∃ m, k = m + 1 := ⟨k - 1, by omega⟩
    obtain rfl : i = 6 := by omega
    simp only [rscode_Encode.l0]
    rw [if_neg (by omega), encTo_six, fill_closed (encW d) (encPs d.length) (by rw [encW_len]; omega) (encPs_D d.length _ (encW_len d)).1]
    rfl
  | succ e ih =>
    intro i k hi hk
    obtain ⟨k, rfl⟩ : ∃ m, k = m + 1 := ⟨k - 1, by omega⟩
    have hs : wrap64 ((i : Int) + 1) = ((i + 1 : Nat) : Int) := by unfold wrap64; omega
    have hs2 : wrap64 ((d.length : Int) + (i : Int)) = (d.length : Int) + i := by unfold wrap64; omega
    simp only [rscode_Encode.l0]
    rw [if_pos (by omega), if_pos (by omega), if_pos (by rw [encTo_len]; omega), hs, hs2, Int.toNat_natCast]
    exact ih (i + 1) k (by omega) (by omega)
theorem encW_word (d : List Int) : (isWord (encW d) (-1) = true ∧ (d.any fun x => decide (x = -1)) = false) ↔ isData d = true := by
  constructor
  · rintro ⟨hw, ha⟩
    obtain ⟨h1, h2, h3⟩ := word_parts hw
    rw [encW_len] at h1 h2
    unfold isData
    simp only [Bool.and_eq_true, decide_eq_true_eq, List.all_eq_true]
    refine ⟨by omega, fun x hx => ?_⟩
    have h4 := h3 x (List.mem_append_left _ hx)
    have h5 := List.any_eq_false.1 ha x hx
    simp only [decide_eq_true_eq] at h5
    exact (isEl_iff x).2 (by omega)
  · intro h
    obtain ⟨h1, h2, h3⟩ := data_parts h
    refine ⟨word_of (by rw [encW_len]; omega) fun x hx => ?_, List.any_eq_false.2 fun x hx => ?_⟩
    · rcases List.mem_append.1 hx with hx | hx
      · have := (isEl_iff x).1 (h3 x hx); omega
      · have := (List.mem_replicate.1 hx).2; omega
    · have := (isEl_iff x).1 (h3 x hx)
      simp only [decide_eq_true_eq]; omega
theorem encode_f (d : List Int) (hd : d.length ≤ 300) (k : Nat) (hk : 1100 ≤ k) : rscode_Encode.f k d = some (encS d) := by
  obtain ⟨k, rfl⟩ : ∃ m, k = m + 1 := ⟨k - 1, by omega⟩
  unfold rscode_Encode.f g_pad.f
  rw [if_pos (by omega)]
  simp only [Option.bind_some]
  have hwe : g_word.f (d ++ List.replicate 6 (-1)) (-1) = some (isWord (encW d) (-1)) := rfl
  rw [hwe]
  simp only [Option.bind_some]
  unfold encS
  have hiff := encW_word d
  by_cases hw : isWord (encW d) (-1) = true
  · rw [if_pos hw, contains_f d (by omega) (k + 1) (by omega)]
    simp only [Option.bind_some]
    by_cases ha : (d.any fun x => decide (x = -1)) = true
    · rw [ha, if_neg (fun h => by have := (hiff.2 h).2; rw [ha] at this; cases this)]
      simp only [rscode_Encode.j0]
      rw [if_pos trivial]
    · have hdat := hiff.1 ⟨hw, Bool.eq_false_iff.2 ha⟩
      rw [if_pos hdat]
      rw [show (d.any fun x => decide (x = -1)) = false from Bool.eq_false_iff.2 ha]
      simp only [rscode_Encode.j0]
      rw [if_neg (by simp), if_pos (by omega)]
      simp only [Option.bind_some]
      exact enc_l0 d (data_parts hdat).2.1 6 0 k (by omega) (by omega)
  · rw [if_neg hw, if_neg (fun h => hw (hiff.2 h).1)]
    simp only [rscode_Encode.j0]
    rw [if_pos trivial]
end
end Go.Proofs.Ytpkhgapifnjbeaa.G
end
section
namespace Go.Proofs.Ytpkhgapifnjbeaa.G
set_option linter.unusedVariables false
set_option linter.unusedSimpArgs false
open Go.RowKit Go.Proofs.YtpkhgapifnjbeaaW.PrintWords Go.Proofs.YtpkhgapifnjbeaaW.PrintLast Go.Proofs.YtpkhgapifnjbeaaW.PrintMore Go.Proofs.Ytpkhgapifnjbeaa.Rs
open Go.Proofs.Ytpkhgapifnjbeaa.V
theorem r_element_f (a : Int) : awardingbodyref18_element.f a = some (isEl a) := by
  unfold awardingbodyref18_element.f isEl
  by_cases h : a ≥ 0
  · rw [if_pos h, decide_eq_true (show 0 ≤ a from h), Bool.true_and]
  · rw [if_neg h, decide_eq_false (show ¬ 0 ≤ a from h), Bool.false_and]
def cpTo (d : List Int) : Nat → List Int
  | 0 => List.replicate (d.length + 6) 0
  | i + 1 => (cpTo d i).set i (d.getD i 0)
theorem cpTo_len (d : List Int) (i : Nat) : (cpTo d i).length = d.length + 6 := by
  induction i with
  | zero => simp [cpTo]
  | succ i ih => simp only [cpTo, List.length_set, ih]
theorem cpTo_at (d : List Int) (j : Nat) : ∀ i, i ≤ d.length → (cpTo d i).getD j 0 = if j < i then d.getD j 0 else 0 := by
  intro i
  induction i with
  | zero =>
    intro _
    rw [if_neg (by omega)]
    simp only [cpTo]
    rw [List.getD_eq_getElem?_getD, List.getElem?_replicate]
    split <;> rfl
  | succ i ih =>
    intro hi
    simp only [cpTo]
    rw [getD_set, cpTo_len, ih (by omega)]
    by_cases e : i = j
    · subst e; rw [if_pos ⟨rfl, by omega⟩, if_pos (by omega)]
    · rw [if_neg (fun q => e q.1)]
      by_cases h : j < i
      · rw [if_pos h, if_pos (by omega)]
      · rw [if_neg h, if_neg (by omega)]
theorem r_enc_l1 (d x : List Int) (hx : x = cpTo d d.length) (hd : isData d = true) : ∀ (e i k : Nat), i + e = 6 → e < k → awardingbodyref18_Encode.l1 k d x ((encPs d.length).take i) (i : Int) = some (encC d, 0) := by
  obtain ⟨h1, h2, h3⟩ := data_parts hd
  intro e
  induction e with
  | zero =>
    intro i k hi hk
    obtain ⟨k, rfl⟩ : ∃ m, k = m + 1 := ⟨k - 1, by omega⟩
    obtain rfl : i = 6 := by omega
    have hxl : x.length = d.length + 6 := by rw [hx, cpTo_len]
    have hp := encPs_D d.length x.length hxl
    simp only [awardingbodyref18_Encode.l1]
    rw [if_neg (by omega), show (encPs d.length).take 6 = encPs d.length from List.take_of_length_le (by rw [encPs_len]; omega)]
    have hel : allEl (zeroTo x (encPs d.length) (encPs d.length).length) = true := by
      refine List.all_eq_true.2 fun y hy => ?_
      obtain ⟨j, hj, rfl⟩ := mem_getD hy
      rw [zeroTo_length, hxl] at hj
      rw [zeroTo_sets]
      by_cases hk : ∃ k, k < (encPs d.length).length ∧ PS (encPs d.length) k = j
      · obtain ⟨k, hk, rfl⟩ := hk
        rw [setsTo_at hp _ _ _ (Nat.le_refl _) hk]; rfl
      · rw [setsTo_off _ _ _ _ _ (fun k hk1 e => hk ⟨k, hk1, e⟩), hx, cpTo_at d j _ (Nat.le_refl _)]
        split
        · exact h3 _ (getD_mem (by assumption))
        · rfl
    rw [Fill_closed x (encPs d.length) (by omega) (by omega) hp.1 hel]
    have hf : FillOf x (encPs d.length) (encC d) := by
      have hE := enc_fill hd
      refine ⟨by rw [hE.len, encW_len, hxl], fun i hi hk => ?_, hE.els, hE.cw⟩
      have hid : i < d.length := by
        rcases Nat.lt_or_ge i d.length with h | h
        · exact h
        · rw [hxl] at hi
          exact absurd (by rw [encPs_PS _ _ (by omega)]; omega) (hk (i - d.length) (by rw [encPs_len]; omega))
      rw [enc_lo hd i hid, hx, cpTo_at d i _ (Nat.le_refl _), if_pos hid]
    rw [fillS_found (by omega) hp hf]
    rfl
  | succ e ih =>
    intro i k hi hk
    obtain ⟨k, rfl⟩ : ∃ m, k = m + 1 := ⟨k - 1, by omega⟩
    have hs : wrap64 ((i : Int) + 1) = ((i + 1 : Nat) : Int) := by unfold wrap64; omega
    have hs2 : wrap64 ((d.length : Int) + (i : Int)) = (d.length : Int) + i := by unfold wrap64; omega
    simp only [awardingbodyref18_Encode.l1]
    rw [if_pos (by omega), if_pos (by rw [List.length_take]; omega), hs, hs2]
    have := ih (i + 1) k (by omega) (by omega)
    rwa [List.take_add_one, List.getElem?_eq_getElem (by rw [encPs_len]; omega), show (some ((encPs d.length)[i]'(by rw [encPs_len]; omega))).toList = [(d.length : Int) + i] from by rw [← encPs_at d.length i (by omega), List.getD_eq_getElem?_getD, List.getElem?_eq_getElem (by rw [encPs_len]; omega)]; rfl] at this
theorem r_enc_l0 (d : List Int) (h1 : 1 ≤ d.length) (h2 : d.length ≤ 9) : ∀ (e i k : Nat), i + e = d.length → e + 10 < k → (∀ j, j < i → isEl (d.getD j 0) = true) → awardingbodyref18_Encode.l0 k d (cpTo d i) (i : Int) = some (encS d) := by
  intro e
  induction e with
  | zero =>
    intro i k hi hk hz
    obtain ⟨k, rfl⟩ : ∃ m, k = m + 1 := ⟨k - 1, by omega⟩
    obtain rfl : i = d.length := by omega
    have hd : isData d = true := by
      unfold isData
      simp only [Bool.and_eq_true, decide_eq_true_eq, List.all_eq_true]
      refine ⟨⟨h1, h2⟩, fun x hx => ?_⟩
      obtain ⟨j, hj, rfl⟩ := mem_getD hx
      exact hz j hj
    simp only [awardingbodyref18_Encode.l0]
    rw [if_neg (by omega)]
    unfold encS
    rw [if_pos hd]
    exact r_enc_l1 d _ rfl hd 6 0 k (by omega) (by omega)
  | succ e ih =>
    intro i k hi hk hz
    obtain ⟨k, rfl⟩ : ∃ m, k = m + 1 := ⟨k - 1, by omega⟩
    have hs : wrap64 ((i : Int) + 1) = ((i + 1 : Nat) : Int) := by unfold wrap64; omega
    simp only [awardingbodyref18_Encode.l0]
    rw [if_pos (by omega), if_pos (by omega), rd_cast, r_element_f]
    simp only [Option.bind_some]
    by_cases he : isEl (d.getD i 0) = true
    · rw [if_pos he, if_pos (by rw [cpTo_len]; omega), hs, Int.toNat_natCast]
      refine ih (i + 1) k (by omega) (by omega) fun j hj => ?_
      rcases Nat.lt_or_ge j i with h | h
      · exact hz j h
      · rw [show j = i from by omega]; exact he
    · rw [if_neg he]
      unfold encS
      rw [if_neg (fun h => he ((data_parts h).2.2 _ (getD_mem (by omega))))]
theorem r_encode_f (d : List Int) (hd : d.length ≤ 300) (k : Nat) (hk : 100 ≤ k) : awardingbodyref18_Encode.f k d = some (encS d) := by
  obtain ⟨k, rfl⟩ : ∃ m, k = m + 1 := ⟨k - 1, by omega⟩
  unfold awardingbodyref18_Encode.f
  by_cases h1 : (d.length : Int) < 1
  · rw [if_pos h1]
    simp only [awardingbodyref18_Encode.j0]
    rw [if_pos trivial]
    unfold encS
    rw [if_neg (fun h => by have := (data_parts h).1; omega)]
  · rw [if_neg h1]
    by_cases h2 : (d.length : Int) > 9
    · rw [decide_eq_true h2]
      simp only [awardingbodyref18_Encode.j0]
      rw [if_pos trivial]
      unfold encS
      rw [if_neg (fun h => by have := (data_parts h).2.1; omega)]
    · rw [decide_eq_false h2]
      have hs : wrap64 ((d.length : Int) + 6) = ((d.length + 6 : Nat) : Int) := by unfold wrap64; omega
      simp only [awardingbodyref18_Encode.j0]
      rw [if_neg (by simp), hs, if_pos (by omega), if_pos (by omega), Int.toNat_natCast]
      exact r_enc_l0 d (by omega) (by omega) d.length 0 k (by omega) (by omega) (fun j hj => by omega)
end Go.Proofs.Ytpkhgapifnjbeaa.G
end
section
namespace Go.Proofs.Ytpkhgapifnjbeaa.G
set_option linter.unusedVariables false
set_option linter.unusedSimpArgs false
open Go.RowKit Go.Proofs.Ytpkhgapifnjbeaa.Rs
def posN (P : Nat → Bool) : Nat → List Int
  | 0 => []
  | m + 1 => posN P m ++ if P m = true then [(m : Int)] else []
theorem mem_posN {P : Nat → Bool} {x : Int} : ∀ m, x ∈ posN P m ↔ ∃ i, i < m ∧ P i = true ∧ x = (i : Int) := by
  intro m
  induction m with
  | zero => simp [posN]
  | succ m ih =>
    simp only [posN, List.mem_append, ih]
    constructor
    · rintro (⟨i, h1, h2, h3⟩ | h)
      · exact ⟨i, by omega, h2, h3⟩
      · by_cases hp : P m = true
        · rw [if_pos hp] at h
          exact ⟨m, by omega, hp, List.mem_singleton.1 h⟩
        · rw [if_neg hp] at h; cases h
    · rintro ⟨i, h1, h2, h3⟩
      rcases Nat.lt_or_ge i m with h | h
      · exact .inl ⟨i, h, h2, h3⟩
      · obtain rfl : i = m := by omega
        exact .inr (by rw [if_pos h2]; exact List.mem_singleton.2 h3)
theorem posN_sorted (P : Nat → Bool) (m : Nat) : (posN P m).Pairwise (· < ·) := by
  induction m with
  | zero => exact List.Pairwise.nil
  | succ m ih =>
    simp only [posN]
    refine List.pairwise_append.2 ⟨ih, ?_, fun a ha b hb => ?_⟩
    · split <;> simp
    · obtain ⟨i, h1, _, rfl⟩ := (mem_posN m).1 ha
      split at hb
      · rw [List.mem_singleton.1 hb]; omega
      · cases hb
theorem posN_or (P Q R : Nat → Bool) (h : ∀ i, P i = true → Q i = true ∨ R i = true) (m : Nat) : (posN P m).length ≤ (posN Q m).length + (posN R m).length := by
  induction m with
  | zero => simp [posN]
  | succ m ih =>
    simp only [posN, List.length_append]
    by_cases hp : P m = true
    · rw [if_pos hp]
      rcases h m hp with h | h
      · rw [if_pos h]; simp only [List.length_singleton]; omega
      · rw [if_pos h]; simp only [List.length_singleton]; omega
    · rw [if_neg hp]; simp only [List.length_nil]; omega
theorem posN_le (P Q : Nat → Bool) (m : Nat) (h : ∀ i, i < m → P i = true → Q i = true) : (posN P m).length ≤ (posN Q m).length := by
  induction m with
  | zero => simp [posN]
  | succ m ih =>
    have := ih (fun i hi => h i (by omega))
    simp only [posN, List.length_append]
    by_cases hp : P m = true
    · rw [if_pos hp, if_pos (h m (by omega) hp)]; simp only [List.length_singleton]; omega
    · rw [if_neg hp]; simp only [List.length_nil]; omega
theorem posN_one (P Q : Nat → Bool) (j m : Nat) (h : ∀ i, i < m → P i = true → Q i = true ∨ i = j) : (posN P m).length ≤ (posN Q m).length + 1 := by
  have h1 : (posN P m).length ≤ (posN Q m).length + (posN (fun i => decide (i = j)) m).length := by
    have := posN_or (fun i => P i && decide (i < m)) Q (fun i => decide (i = j)) (fun i hi => by
      simp only [Bool.and_eq_true, decide_eq_true_eq] at hi
      rcases h i hi.2 hi.1 with h | h
      · exact .inl h
      · exact .inr (by simpa using h)) m
    refine Nat.le_trans (posN_le P _ m (fun i hi hp => by simp [hp, hi])) this
  have h2 : ∀ m, (posN (fun i => decide (i = j)) m).length ≤ if j < m then 1 else 0 := by
    intro m
    induction m with
    | zero => simp [posN]
    | succ m ih =>
      simp only [posN, List.length_append]
      by_cases e : m = j
      · subst e
        rw [if_neg (by omega)] at ih
        rw [if_pos (by simp), if_pos (by omega)]
        simp only [List.length_singleton]; omega
      · rw [if_neg (by simpa using e)]
        simp only [List.length_nil, Nat.add_zero]
        split at ih
        · rw [if_pos (by omega)]; exact ih
        · omega
  have := h2 m
  split at this <;> omega
theorem posN_lt (P Q : Nat → Bool) (j m : Nat) (hj : j < m) (hQ : Q j = true) (hP : P j = false) (h : ∀ i, i < m → P i = true → Q i = true) : (posN P m).length + 1 ≤ (posN Q m).length := by
  induction m with
  | zero => omega
  | succ m ih =>
    simp only [posN, List.length_append]
    by_cases e : j = m
    · subst e
      have := posN_le P Q j (fun i hi => h i (by omega))
      rw [if_pos hQ, if_neg (by rw [hP]; simp)]
      simp only [List.length_singleton, List.length_nil]; omega
    · have := ih (by omega) (fun i hi => h i (by omega))
      by_cases hp : P m = true
      · rw [if_pos hp, if_pos (h m (by omega) hp)]; simp only [List.length_singleton]; omega
      · rw [if_neg hp]; simp only [List.length_nil]; omega
theorem posN_zero {P : Nat → Bool} {m : Nat} (h : (posN P m).length = 0) (i : Nat) (hi : i < m) : P i = false := by
  have h1 := List.eq_nil_of_length_eq_zero h
  by_cases hp : P i = true
  · have : (i : Int) ∈ posN P m := (mem_posN m).2 ⟨i, hi, hp, rfl⟩
    rw [h1] at this; cases this
  · simpa using hp
theorem sorted_D {n : Nat} {ps : List Int} (h6 : ps.length ≤ 6) (hs : ps.Nodup) (hr : ∀ x ∈ ps, 0 ≤ x ∧ x < n) : placesD n ps := by
  refine ⟨⟨h6, fun k hk => hr _ (getD_mem hk)⟩, fun i j hi hj e => ?_⟩
  have h1 := hr _ (getD_mem hi)
  have h2 := hr _ (getD_mem hj)
  have e2 : ps.getD i 0 = ps.getD j 0 := by unfold PS at e; omega
  rw [List.getD_eq_getElem?_getD, List.getD_eq_getElem?_getD, List.getElem?_eq_getElem hi, List.getElem?_eq_getElem hj] at e2
  have e3 := Option.some.inj (show some ps[i] = some ps[j] from by simpa using e2)
  rcases Nat.lt_trichotomy i j with h | h | h
  · exact absurd e3 (List.pairwise_iff_getElem.1 hs i j hi hj h)
  · exact h
  · exact absurd e3.symm (List.pairwise_iff_getElem.1 hs j i hj hi h)
theorem posN_nodup (P : Nat → Bool) (m : Nat) : (posN P m).Nodup := (posN_sorted P m).imp (fun h => by omega)
theorem posN_D {P : Nat → Bool} {n : Nat} (h6 : (posN P n).length ≤ 6) : placesD n (posN P n) := sorted_D h6 (posN_nodup P n) fun x hx => by
  obtain ⟨i, h1, _, rfl⟩ := (mem_posN n).1 hx
  omega
theorem PS_mem {ps : List Int} {i : Nat} (h : (i : Int) ∈ ps) : ∃ k, k < ps.length ∧ PS ps k = i := by
  obtain ⟨k, hk, e⟩ := mem_getD h
  exact ⟨k, hk, by unfold PS; rw [e]; omega⟩
theorem mem_PS {ps : List Int} {n k : Nat} (hp : placesOk n ps) (hk : k < ps.length) : ((PS ps k : Nat) : Int) ∈ ps := by
  have := hp.2 k hk
  unfold PS
  rw [Int.toNat_of_nonneg this.1]
  exact getD_mem hk
theorem eraN_pos (w : List Int) (m : Nat) : eraN w m = posN (fun i => decide (w.getD i 0 < 0)) m := by
  induction m with
  | zero => rfl
  | succ m ih => simp only [eraN, posN, ih, decide_eq_true_eq]
theorem errN_pos (w c : List Int) (m : Nat) : errN w c m = (posN (fun i => decide (0 ≤ w.getD i 0) && decide (w.getD i 0 ≠ c.getD i 0)) m).length := by
  induction m with
  | zero => rfl
  | succ m ih =>
    simp only [errN, posN, ih, List.length_append]
    congr 1
    by_cases h : 0 ≤ w.getD m 0 ∧ w.getD m 0 ≠ c.getD m 0
    · rw [if_pos h, if_pos (by simp only [Bool.and_eq_true, decide_eq_true_eq]; exact h)]; rfl
    · rw [if_neg h, if_neg (by simp only [Bool.and_eq_true, decide_eq_true_eq]; exact h)]; rfl
structure Near (w c : List Int) : Prop where
  code : isCode c = true
  len : c.length = w.length
  near : 2 * errN w c w.length + (eraN w w.length).length ≤ 6
theorem code_el {c : List Int} (h : isCode c = true) (i : Nat) (hi : i < c.length) : isEl (c.getD i 0) = true := allEl_at (word_el (code_parts h).1).1 i hi
theorem fill_self {c c' ps : List Int} (h' : isCode c' = true) (hp : placesD c.length ps) (hl : c'.length = c.length) (ha : ∀ i, i < c.length → (i : Int) ∉ ps → c'.getD i 0 = c.getD i 0) : FillOf c ps c' :=
  ⟨hl, fun i hi hk => ha i hi (fun hm => by obtain ⟨k, h1, h2⟩ := PS_mem hm; exact hk k h1 h2), fun k hk => code_el h' _ (by rw [hl]; exact hp.lt hk), (code_parts h').2⟩
theorem near_unique {w c c' : List Int} (h : Near w c) (h' : Near w c') : c = c' := by
  obtain ⟨P, hP⟩ : ∃ P : Nat → Bool, P = fun i => decide (w.getD i 0 < 0) || ((decide (0 ≤ w.getD i 0) && decide (w.getD i 0 ≠ c.getD i 0)) || (decide (0 ≤ w.getD i 0) && decide (w.getD i 0 ≠ c'.getD i 0))) := ⟨_, rfl⟩
  have hn := h.near
  have hn' := h'.near
  have h6 : (posN P w.length).length ≤ 6 := by
    have a1 := posN_or P (fun i => decide (w.getD i 0 < 0)) (fun i => (decide (0 ≤ w.getD i 0) && decide (w.getD i 0 ≠ c.getD i 0)) || (decide (0 ≤ w.getD i 0) && decide (w.getD i 0 ≠ c'.getD i 0))) (fun i hi => by rw [hP] at hi; simpa [Bool.or_eq_true] using hi) w.length
    have a2 := posN_or (fun i => (decide (0 ≤ w.getD i 0) && decide (w.getD i 0 ≠ c.getD i 0)) || (decide (0 ≤ w.getD i 0) && decide (w.getD i 0 ≠ c'.getD i 0))) (fun i => decide (0 ≤ w.getD i 0) && decide (w.getD i 0 ≠ c.getD i 0)) (fun i => decide (0 ≤ w.getD i 0) && decide (w.getD i 0 ≠ c'.getD i 0)) (fun i hi => by simpa only [Bool.or_eq_true] using hi) w.length
    rw [← eraN_pos] at a1
    rw [← errN_pos, ← errN_pos] at a2
    omega
  have hD : placesD c.length (posN P w.length) := by rw [h.len]; exact posN_D h6
  have hag : ∀ i, i < c.length → (i : Int) ∉ posN P w.length → c'.getD i 0 = c.getD i 0 := by
    intro i hi hm
    have hi' : P i ≠ true := fun hp => hm ((mem_posN _).2 ⟨i, by rw [← h.len]; exact hi, hp, rfl⟩)
    rw [hP] at hi'
    have b1 : ¬ w.getD i 0 < 0 := fun q => hi' (by simp only [Bool.or_eq_true, Bool.and_eq_true, decide_eq_true_eq]; exact .inl q)
    have b2 : w.getD i 0 = c.getD i 0 := Classical.byContradiction fun q => hi' (by simp only [Bool.or_eq_true, Bool.and_eq_true, decide_eq_true_eq]; exact .inr (.inl ⟨by omega, q⟩))
    have b3 : w.getD i 0 = c'.getD i 0 := Classical.byContradiction fun q => hi' (by simp only [Bool.or_eq_true, Bool.and_eq_true, decide_eq_true_eq]; exact .inr (.inr ⟨by omega, q⟩))
    omega
  have hl := (word_el (code_parts h.code).1).2.2
  exact FillOf.uniq hl hD (fill_self h.code hD rfl (fun i hi _ => rfl)) (fill_self h'.code hD (by rw [h'.len, h.len]) hag)
end Go.Proofs.Ytpkhgapifnjbeaa.G
end
section
namespace Go.Proofs.Ytpkhgapifnjbeaa.G
set_option linter.unusedVariables false
set_option linter.unusedSimpArgs false
open Go.RowKit Go.Proofs.YtpkhgapifnjbeaaW.PrintWords Go.Proofs.YtpkhgapifnjbeaaW.PrintLast Go.Proofs.YtpkhgapifnjbeaaW.PrintMore Go.Proofs.Ytpkhgapifnjbeaa.Rs
open Go.Proofs.Ytpkhgapifnjbeaa.V
def difP (w c ps : List Int) (i : Nat) : Bool := decide ((i : Int) ∉ ps) && decide (w.getD i 0 ≠ c.getD i 0)
def difN (w c ps : List Int) : Nat := (posN (difP w c ps) w.length).length
theorem difP_iff {w c ps : List Int} {i : Nat} : difP w c ps i = true ↔ (i : Int) ∉ ps ∧ w.getD i 0 ≠ c.getD i 0 := by
  unfold difP
  simp only [Bool.and_eq_true, decide_eq_true_eq]
theorem posN_none {P : Nat → Bool} {m : Nat} (h : ∀ i, i < m → P i = false) : (posN P m).length = 0 := by
  induction m with
  | zero => rfl
  | succ m ih =>
    simp only [posN, List.length_append]
    rw [ih (fun i hi => h i (by omega)), if_neg (by rw [h m (by omega)]; simp)]; rfl
structure Srch (w ps : List Int) (more fr : Nat) : Prop where
  nodup : ps.Nodup
  rng : ∀ x ∈ ps, 0 ≤ x ∧ x < w.length
  era : ∀ i, i < w.length → w.getD i 0 < 0 → (i : Int) ∈ ps
  frm : ∀ i, fr ≤ i → i < w.length → (i : Int) ∈ ps → w.getD i 0 < 0
  len : ps.length + more ≤ 6
section
variable {w ps : List Int} {more fr : Nat}
theorem Srch.D (h : Srch w ps more fr) : placesD w.length ps := sorted_D (by have := h.len; omega) h.nodup h.rng
theorem Srch.el (hw : isWord w (-1) = true) (h : Srch w ps more fr) : allEl (zeroTo w ps ps.length) = true := by
  obtain ⟨h1, h2, h3⟩ := word_parts hw
  refine List.all_eq_true.2 fun y hy => ?_
  obtain ⟨j, hj, rfl⟩ := mem_getD hy
  rw [zeroTo_length] at hj
  rw [zeroTo_sets]
  by_cases hk : ∃ k, k < ps.length ∧ PS ps k = j
  · obtain ⟨k, hk, rfl⟩ := hk
    rw [setsTo_at h.D _ _ _ (Nat.le_refl _) hk]; rfl
  · have hk' : ∀ k, k < ps.length → PS ps k ≠ j := fun k hk1 e => hk ⟨k, hk1, e⟩
    rw [setsTo_off _ _ _ _ _ hk']
    have h4 := h3 _ (getD_mem hj)
    have h5 : ¬ w.getD j 0 < 0 := fun q => by obtain ⟨k, a, b⟩ := PS_mem (h.era j hj q); exact hk' k a b
    exact (isEl_iff _).2 (by omega)
theorem Srch.fill (hw : isWord w (-1) = true) (h : Srch w ps more fr) : r_Fill.f w ps = some (fillS w ps) := by
  obtain ⟨h1, h2, h3⟩ := word_parts hw
  exact Fill_closed w ps (by omega) h2 h.D.1 (h.el hw)
theorem fill_dif {c : List Int} (hp : placesD w.length ps) (h : FillOf w ps c) : difN w c ps = 0 := by
  refine posN_none fun i hi => ?_
  by_cases hd : difP w c ps i = true
  · obtain ⟨a, b⟩ := difP_iff.1 hd
    exact absurd (h.agree i hi (fun k hk e => a (by rw [← e]; exact mem_PS hp.1 hk))).symm b
  · simpa using hd
theorem dif_fill {c : List Int} (hp : placesD w.length ps) (hc : isCode c = true) (hl : c.length = w.length) (h : difN w c ps = 0) : FillOf w ps c := by
  refine ⟨hl, fun i hi hk => ?_, fun k hk => code_el hc _ (by rw [hl]; exact hp.lt hk), (code_parts hc).2⟩
  have := posN_zero h i hi
  have h2 : (i : Int) ∉ ps := fun hm => by obtain ⟨k, a, b⟩ := PS_mem hm; exact hk k a b
  exact Classical.byContradiction fun q => by
    have h3 := difP_iff.2 ⟨h2, fun e => q e.symm⟩
    rw [this] at h3; cases h3
def Sound (w ps : List Int) (more : Nat) (r : List Int × Bool) : Prop := r.2 = true → isCode r.1 = true ∧ r.1.length = w.length ∧ difN w r.1 ps ≤ more
def Compl (w ps : List Int) (more fr : Nat) (r : List Int × Bool) : Prop := ∀ c, isCode c = true → c.length = w.length → difN w c ps ≤ more → (∀ i, i < w.length → difP w c ps i = true → fr ≤ i) → r.2 = true
theorem Srch.next (h : Srch w ps (more + 1) fr) {i : Nat} (hf : fr ≤ i) (hi : i < w.length) (h0 : ¬ w.getD i 0 < 0) : Srch w (ps ++ [(i : Int)]) more (i + 1) := by
  have hni : (i : Int) ∉ ps := fun hm => h0 (h.frm i hf hi hm)
  refine ⟨List.nodup_append.2 ⟨h.nodup, by simp, fun a ha b hb e => hni (by rw [List.mem_singleton.1 hb] at e; rw [← e]; exact ha)⟩, fun x hx => ?_, fun j hj hz => List.mem_append_left _ (h.era j hj hz), fun j h1 h2 h3 => ?_, ?_⟩
  · rcases List.mem_append.1 hx with hx | hx
    · exact h.rng x hx
    · rw [List.mem_singleton.1 hx]; omega
  · rcases List.mem_append.1 h3 with h3 | h3
    · exact h.frm j (by omega) h2 h3
    · have := List.mem_singleton.1 h3; omega
  · have := h.len
    simp only [List.length_append, List.length_singleton]; omega
theorem dif_more (c : List Int) (i : Nat) : difN w c ps ≤ difN w c (ps ++ [(i : Int)]) + 1 := by
  refine posN_one _ _ i _ fun j hj hd => ?_
  obtain ⟨a, b⟩ := difP_iff.1 hd
  by_cases e : j = i
  · exact .inr e
  · exact .inl (difP_iff.2 ⟨fun hm => (List.mem_append.1 hm).elim a (fun q => e (by have := List.mem_singleton.1 q; omega)), b⟩)
theorem dif_less {c : List Int} {i : Nat} (hi : i < w.length) (hd : difP w c ps i = true) : difN w c (ps ++ [(i : Int)]) + 1 ≤ difN w c ps := by
  refine posN_lt _ _ i _ hi hd ?_ fun j hj hd => ?_
  · have : ¬ difP w c (ps ++ [(i : Int)]) i = true := fun q => (difP_iff.1 q).1 (by simp)
    simpa using this
  · obtain ⟨a, b⟩ := difP_iff.1 hd
    exact difP_iff.2 ⟨fun hm => a (List.mem_append_left _ hm), b⟩
theorem dif_next {c : List Int} {i : Nat} (hp : ∀ x, x < w.length → difP w c ps x = true → i ≤ x) : ∀ x, x < w.length → difP w c (ps ++ [(i : Int)]) x = true → i + 1 ≤ x := by
  intro x hx hqx
  obtain ⟨a, b⟩ := difP_iff.1 hqx
  have h4 := hp x hx (difP_iff.2 ⟨fun hm => a (List.mem_append_left _ hm), b⟩)
  have h5 : x ≠ i := fun e => a (List.mem_append_right _ (by rw [e]; exact List.mem_singleton.2 rfl))
  omega
theorem search_l0 (hw : isWord w (-1) = true) (ih : ∀ (ps : List Int) (fr k : Nat), Srch w ps more fr → (more + 1) * 20 < k → ∃ r, awardingbodyref18_search.f k w ps (more : Int) (fr : Int) = some r ∧ Sound w ps more r ∧ Compl w ps more fr r)
    (h : Srch w ps (more + 1) fr) (hno : ∀ c, isCode c = true → c.length = w.length → difN w c ps ≠ 0) : ∀ (d i k : Nat), i + d = w.length → (more + 1) * 20 + d + 1 < k → fr ≤ i → ∃ r, awardingbodyref18_search.l0 k w ps ((more + 1 : Nat) : Int) (i : Int) = some r ∧ Sound w ps (more + 1) r ∧ Compl w ps (more + 1) i r := by
  obtain ⟨w1, w2, w3⟩ := word_parts hw
  have hlen := h.len
  intro d
  induction d with
  | zero =>
    intro i k hi hk hf
    obtain ⟨k, rfl⟩ : ∃ m, k = m + 1 := ⟨k - 1, by omega⟩
    simp only [awardingbodyref18_search.l0]
    rw [if_neg (by omega)]
    refine ⟨([], false), rfl, (fun q => by cases q), fun c hc hl hd hp => absurd (posN_none fun j hj => ?_) (hno c hc hl)⟩
    by_cases q : difP w c ps j = true
    · have := hp j hj q; omega
    · simpa using q
  | succ d ihd =>
    intro i k hi hk hf
    obtain ⟨k, rfl⟩ : ∃ m, k = m + 1 := ⟨k - 1, by omega⟩
    have hs : wrap64 ((i : Int) + 1) = ((i + 1 : Nat) : Int) := by unfold wrap64; omega
    have hs2 : wrap64 (((more + 1 : Nat) : Int) - 1) = (more : Int) := by unfold wrap64; omega
    simp only [awardingbodyref18_search.l0]
    rw [if_pos (by omega), if_pos (by omega), rd_cast, hs, hs2]
    obtain ⟨r, hr, hS, hC⟩ := ihd (i + 1) k (by omega) (by omega) (by omega)
    by_cases h0 : w.getD i 0 < 0
    · rw [if_pos h0]
      refine ⟨r, hr, hS, fun c hc hl hd hp => hC c hc hl hd fun j hj hq => ?_⟩
      have := hp j hj hq
      have : j ≠ i := fun e => (difP_iff.1 hq).1 (by rw [e]; exact h.era i (by omega) h0)
      omega
    · rw [if_neg h0]
      have hnx := h.next hf (by omega) h0
      obtain ⟨r', hr', hS', hC'⟩ := ih (ps ++ [(i : Int)]) (i + 1) k hnx (by omega)
      rw [if_pos (by simp only [List.length_nil]; omega)]
      simp only [List.nil_append, Option.bind_some]
      rw [if_pos (by omega), hr']
      simp only [Option.bind_some]
      by_cases h2 : r'.2 = true
      · rw [if_pos h2]
        obtain ⟨a, b, c⟩ := hS' h2
        have hm := dif_more (w := w) (ps := ps) r'.1 i
        have hm2 : difN w r'.1 ps ≤ more + 1 := by omega
        exact ⟨(r'.1, true), rfl, fun _ => ⟨a, b, hm2⟩, fun _ _ _ _ _ => rfl⟩
      · rw [if_neg h2]
        refine ⟨r, hr, hS, fun c hc hl hd hp => hC c hc hl hd fun j hj hq => ?_⟩
        have h3 := hp j hj hq
        by_cases e : j = i
        · subst e
          have h6 : j < w.length := hj
          have h5 : difN w c (ps ++ [(j : Int)]) ≤ more := Nat.le_of_succ_le_succ (Nat.le_trans (dif_less h6 hq) hd)
          exact absurd (hC' c hc hl h5 (dif_next hp)) h2
        · omega
theorem search_ok (hw : isWord w (-1) = true) : ∀ (more : Nat) (ps : List Int) (fr k : Nat), Srch w ps more fr → (more + 1) * 20 < k → ∃ r, awardingbodyref18_search.f k w ps (more : Int) (fr : Int) = some r ∧ Sound w ps more r ∧ Compl w ps more fr r := by
  obtain ⟨w1, w2, w3⟩ := word_parts hw
  intro more
  induction more with
  | zero =>
    intro ps fr k h hk
    obtain ⟨k, rfl⟩ : ∃ m, k = m + 1 := ⟨k - 1, by omega⟩
    simp only [awardingbodyref18_search.f]
    rw [h.fill hw]
    simp only [Option.bind_some]
    by_cases h2 : (fillS w ps).2 = true
    · rw [if_pos h2]
      obtain ⟨a, b⟩ := fillS_ok w2 h.D h2
      have hm2 : difN w (fillS w ps).1 ps ≤ 0 := by rw [fill_dif h.D a]; exact Nat.zero_le _
      exact ⟨((fillS w ps).1, true), rfl, fun _ => ⟨b, a.len, hm2⟩, fun _ _ _ _ _ => rfl⟩
    · rw [if_neg h2, if_pos (by omega)]
      refine ⟨([], false), rfl, (fun q => by cases q), fun c hc hl hd _ => absurd ?_ h2⟩
      rw [fillS_found w2 h.D (dif_fill h.D hc hl (by omega))]
      exact hc
  | succ more ih =>
    intro ps fr k h hk
    obtain ⟨k, rfl⟩ : ∃ m, k = m + 1 := ⟨k - 1, by omega⟩
    simp only [awardingbodyref18_search.f]
    rw [h.fill hw]
    simp only [Option.bind_some]
    by_cases h2 : (fillS w ps).2 = true
    · rw [if_pos h2]
      obtain ⟨a, b⟩ := fillS_ok w2 h.D h2
      have hm2 : difN w (fillS w ps).1 ps ≤ more + 1 := by rw [fill_dif h.D a]; exact Nat.zero_le _
      exact ⟨((fillS w ps).1, true), rfl, fun _ => ⟨b, a.len, hm2⟩, fun _ _ _ _ _ => rfl⟩
    · rw [if_neg h2, if_neg (by omega)]
      have hno : ∀ c, isCode c = true → c.length = w.length → difN w c ps ≠ 0 := fun c hc hl hd => h2 (by rw [fillS_found w2 h.D (dif_fill h.D hc hl hd)]; exact hc)
      rcases Nat.lt_or_ge w.length fr with hfr | hfr
      · obtain ⟨k, rfl⟩ : ∃ m, k = m + 1 := ⟨k - 1, by omega⟩
        simp only [awardingbodyref18_search.l0]
        rw [if_neg (by omega)]
        refine ⟨([], false), rfl, (fun q => by cases q), fun c hc hl hd hp => absurd (posN_none fun j hj => ?_) (hno c hc hl)⟩
        by_cases q : difP w c ps j = true
        · have := hp j hj q; omega
        · simpa using q
      · exact search_l0 hw ih h hno (w.length - fr) fr k (by omega) (by omega) (Nat.le_refl _)
end
end Go.Proofs.Ytpkhgapifnjbeaa.G
end
section
namespace Go.Proofs.Ytpkhgapifnjbeaa.G
set_option linter.unusedVariables false
set_option linter.unusedSimpArgs false
open Go.RowKit Go.Proofs.YtpkhgapifnjbeaaW.PrintWords Go.Proofs.YtpkhgapifnjbeaaW.PrintLast Go.Proofs.YtpkhgapifnjbeaaW.PrintMore Go.Proofs.Ytpkhgapifnjbeaa.Rs
open Go.Proofs.Ytpkhgapifnjbeaa.V
open Classical in
noncomputable def decS (w : List Int) : List Int × Int × Int :=
  if isWord w (-1) = true then
    (if h : ∃ c, Near w c then ((Classical.choose h).take (w.length - 6), ((errN w (Classical.choose h) w.length : Nat) : Int), 0) else ([], 0, 25))
  else ([], 0, 2)
theorem decS_near {w c : List Int} (hw : isWord w (-1) = true) (h : Near w c) : decS w = (c.take (w.length - 6), ((errN w c w.length : Nat) : Int), 0) := by
  have h' : ∃ c, Near w c := ⟨c, h⟩
  unfold decS
  rw [if_pos hw, dif_pos h', near_unique (Classical.choose_spec h') h]
theorem decS_far {w : List Int} (hw : isWord w (-1) = true) (h : ∀ c, ¬ Near w c) : decS w = ([], 0, 25) := by
  unfold decS
  rw [if_pos hw, dif_neg (fun ⟨c, hc⟩ => h c hc)]
theorem decS_bad {w : List Int} (hw : ¬ isWord w (-1) = true) : decS w = ([], 0, 2) := by
  unfold decS
  rw [if_neg hw]
theorem err_dif (w c : List Int) : errN w c w.length = difN w c (eraN w w.length) := by
  rw [errN_pos, eraN_pos]
  unfold difN
  apply Nat.le_antisymm
  · refine posN_le _ _ _ fun i hi h => ?_
    simp only [Bool.and_eq_true, decide_eq_true_eq] at h
    refine difP_iff.2 ⟨fun hm => ?_, h.2⟩
    obtain ⟨j, _, h2, h3⟩ := (mem_posN _).1 hm
    simp only [decide_eq_true_eq] at h2
    rw [show i = j from by omega] at h
    omega
  · refine posN_le _ _ _ fun i hi h => ?_
    obtain ⟨a, b⟩ := difP_iff.1 h
    simp only [Bool.and_eq_true, decide_eq_true_eq]
    refine ⟨?_, b⟩
    rcases Int.lt_or_le (w.getD i 0) 0 with h0 | h0
    · exact absurd ((mem_posN _).2 ⟨i, hi, by simpa using h0, rfl⟩) a
    · exact h0
theorem era_mem (w : List Int) (i : Nat) : (i : Int) ∈ eraN w w.length ↔ i < w.length ∧ w.getD i 0 < 0 := by
  rw [eraN_pos, mem_posN]
  constructor
  · rintro ⟨j, h1, h2, h3⟩
    rw [show i = j from by omega]
    exact ⟨h1, of_decide_eq_true h2⟩
  · rintro ⟨h1, h2⟩
    exact ⟨i, h1, decide_eq_true h2, rfl⟩
theorem srch_start {w : List Int} {more : Nat} (h : (eraN w w.length).length + more ≤ 6) : Srch w (eraN w w.length) more 0 := by
  refine ⟨by rw [eraN_pos]; exact posN_nodup _ _, fun x hx => ?_, fun i hi h0 => (era_mem w i).2 ⟨hi, h0⟩, fun i _ hi hm => ((era_mem w i).1 hm).2, h⟩
  rw [eraN_pos] at hx
  obtain ⟨j, h1, _, rfl⟩ := (mem_posN _).1 hx
  omega
theorem r_decode_f (w : List Int) (hl : w.length ≤ 300) (k : Nat) (hk : 100 ≤ k) : awardingbodyref18_Decode.f k w = some (decS w) := by
  unfold awardingbodyref18_Decode.f
  simp only [r_symbols.f, Option.bind_some]
  by_cases hw : isWord w (-1) = true
  · rw [if_pos hw]
    obtain ⟨w1, w2, w3⟩ := word_parts hw
    unfold r_Era.f
    rw [if_pos (by omega)]
    simp only [Option.bind_some]
    by_cases h6 : ((eraN w w.length).length : Int) > 6
    · rw [if_pos h6, decS_far hw (fun c hc => by have := hc.near; omega)]
    · rw [if_neg h6]
      obtain ⟨more, hm⟩ : ∃ more, more = (6 - (eraN w w.length).length) / 2 := ⟨_, rfl⟩
      have e1 : wrap64 (Int.tdiv (wrap64 (6 - ((eraN w w.length).length : Int))) 2) = (more : Int) := by
        have : wrap64 (6 - ((eraN w w.length).length : Int)) = ((6 - (eraN w w.length).length : Nat) : Int) := by unfold wrap64; omega
        rw [this, show Int.tdiv ((6 - (eraN w w.length).length : Nat) : Int) 2 = (((6 - (eraN w w.length).length) / 2 : Nat) : Int) from by simp [Int.tdiv_eq_ediv]]
        rw [← hm]; unfold wrap64; omega
      obtain ⟨r, hr, hS, hC⟩ := search_ok hw more (eraN w w.length) 0 k (srch_start (by omega)) (by omega)
      rw [e1, show (0 : Int) = ((0 : Nat) : Int) from rfl, hr]
      simp only [Option.bind_some]
      by_cases h2 : r.2 = true
      · rw [if_pos h2]
        obtain ⟨a, b, c⟩ := hS h2
        have hn : Near w r.1 := ⟨a, b, by rw [err_dif]; omega⟩
        rw [decS_near hw hn]
        unfold g_dec2.f
        rw [if_pos ⟨by omega, by omega, by omega⟩, b]
        rfl
      · rw [if_neg h2, decS_far hw fun c hc => h2 (hC c hc.code hc.len (by rw [← err_dif]; have := hc.near; omega) (fun i _ _ => Nat.zero_le _))]
        rfl
  · rw [if_neg hw, decS_bad hw]
end Go.Proofs.Ytpkhgapifnjbeaa.G
end
section
namespace Go.Proofs.Ytpkhgapifnjbeaa.G
set_option linter.unusedVariables false
set_option linter.unusedSimpArgs false
open Go.RowKit Go.Proofs.Ytpkhgapifnjbeaa.Rs
theorem gsum_shift (n : Nat) (f : Nat → GF) : gsum (n + 1) f = f 0 + gsum n (fun k => f (k + 1)) := by
  induction n with
  | zero => show gsum 0 f + f 0 = f 0 + 0; rw [GF.add_zero]; exact GF.zero_add _
  | succ n ih =>
    show gsum (n + 1) f + f (n + 1) = f 0 + (gsum n (fun k => f (k + 1)) + f (n + 1))
    rw [ih, GF.add_assoc]
theorem gsum_mul_r (n : Nat) (c : GF) (f : Nat → GF) : gsum n (fun i => f i * c) = gsum n f * c := by
  rw [GF.mul_comm, ← gsum_mul]
  exact gsum_congr fun i _ => GF.mul_comm _ _
def pc (X : Nat → GF) : Nat → Nat → GF
  | 0, k => if k = 0 then 1 else 0
  | i + 1, k => pc X i k + (if k = 0 then 0 else pc X i (k - 1)) * X i
def prodX (X : Nat → GF) (z : GF) : Nat → GF
  | 0 => 1
  | i + 1 => prodX X z i * (z + X i)
theorem pc_hi (X : Nat → GF) : ∀ i k, i < k → pc X i k = 0 := by
  intro i
  induction i with
  | zero => intro k hk; simp only [pc]; rw [if_neg (by omega)]
  | succ i ih =>
    intro k hk
    simp only [pc]
    rw [ih k (by omega), if_neg (by omega), ih (k - 1) (by omega), GF.zero_mul, GF.add_zero]
theorem pc_zero (X : Nat → GF) (i : Nat) : pc X i 0 = 1 := by
  induction i with
  | zero => simp [pc]
  | succ i ih => simp only [pc]; rw [ih, if_pos trivial, GF.zero_mul, GF.add_zero]
theorem pw_succ (z : GF) (a : Nat) : GF.pw z (a + 1) = GF.pw z a * z := rfl
theorem pc_ev (X : Nat → GF) (z : GF) (i : Nat) : gsum (i + 1) (fun k => pc X i k * GF.pw z (i - k)) = prodX X z i := by
  induction i with
  | zero => simp only [gsum, pc, prodX]; rw [if_pos trivial]; exact (GF.zero_add _).trans (GF.mul_one _)
  | succ i ih =>
    have h1 : gsum (i + 2) (fun k => pc X (i + 1) k * GF.pw z (i + 1 - k)) = gsum (i + 2) (fun k => pc X i k * GF.pw z (i + 1 - k)) + gsum (i + 2) (fun k => (if k = 0 then 0 else pc X i (k - 1)) * X i * GF.pw z (i + 1 - k)) := by
      rw [← gsum_add]
      exact gsum_congr fun k hk => by simp only [pc]; rw [GF.add_mul]
    have h2 : gsum (i + 2) (fun k => pc X i k * GF.pw z (i + 1 - k)) = prodX X z i * z := by
      show gsum (i + 1) _ + pc X i (i + 1) * _ = _
      rw [pc_hi X i (i + 1) (by omega), GF.zero_mul, GF.add_zero, ← ih, ← gsum_mul_r]
      exact gsum_congr fun k hk => by rw [show i + 1 - k = (i - k) + 1 from by omega, pw_succ, GF.mul_assoc]
    have h3 : gsum (i + 2) (fun k => (if k = 0 then 0 else pc X i (k - 1)) * X i * GF.pw z (i + 1 - k)) = prodX X z i * X i := by
      rw [gsum_shift (i + 1), if_pos rfl, GF.zero_mul, GF.zero_mul, GF.zero_add, ← ih, ← gsum_mul_r]
      refine gsum_congr fun k hk => ?_
      rw [if_neg (by omega), Nat.add_sub_cancel, show i + 1 - (k + 1) = i - k from by omega]
      ac_rfl
    rw [h1, h2, h3]
    simp only [prodX]
    rw [GF.mul_add]
theorem prodX_zero (X : Nat → GF) (z : GF) (i : Nat) : prodX X z i = 0 ↔ ∃ t, t < i ∧ z = X t := by
  induction i with
  | zero => simp only [prodX]; exact ⟨fun h => absurd h GF.one_ne_zero, fun ⟨t, h, _⟩ => by omega⟩
  | succ i ih =>
    simp only [prodX]
    constructor
    · intro h
      rcases GF.mul_eq_zero _ _ h with h | h
      · obtain ⟨t, h1, h2⟩ := ih.1 h
        exact ⟨t, by omega, h2⟩
      · exact ⟨i, by omega, GF.eq_of_add h⟩
    · rintro ⟨t, h1, h2⟩
      rcases Nat.lt_or_ge t i with h | h
      · rw [ih.2 ⟨t, h, h2⟩, GF.zero_mul]
      · rw [show t = i from by omega] at h2
        rw [h2, GF.add_self, GF.mul_zero]
theorem roots (m : Nat) (Z : Nat → GF) (hz : ∀ t, t < m → Z t ≠ 0) (hi : ∀ i j, i < m → j < m → Z i = Z j → i = j) (d : Nat → GF) (h : ∀ t, t < m → gsum m (fun k => d k * GF.pw (Z t) k) = 0) : ∀ k, k < m → d k = 0 := by
  intro k0 hk0
  obtain ⟨M, hM⟩ : ∃ M : Nat → Nat → Int, M = fun j t => if t < m then ofG (GF.pw (Z t) j) else ofG (if j = k0 then 1 else 0) := ⟨_, rfl⟩
  have hMt : ∀ j t, t < m → toG (M j t) = GF.pw (Z t) j := fun j t ht => by rw [hM]; simp only; rw [if_pos ht, toG_ofG]
  have hMm : ∀ j, toG (M j m) = if j = k0 then 1 else 0 := fun j => by rw [hM]; simp only; rw [if_neg (by omega), toG_ofG]
  have he : ElM m (m + 1) M := fun i k _ _ => by rw [hM]; simp only; split <;> exact isEl_ofG _
  have hI : Indep m m M := fun y hy => by
    refine vand m Z y 0 hz hi fun j hj => ?_
    rw [← hy j hj]
    exact gsum_congr fun t ht => by rw [hMt j t ht, Nat.zero_add]; exact GF.mul_comm _ _
  obtain ⟨M', _, _, _, _, hs⟩ := gj_some he hI
  have hy := (hs (fun i => toG (M' i m))).2 fun i hi => by rw [if_pos hi]
  obtain ⟨y, hyd⟩ : ∃ y : Nat → GF, y = fun i => toG (M' i m) := ⟨_, rfl⟩
  rw [← hyd] at hy
  have e1 : gsum m (fun t => y t * gsum m (fun k => d k * GF.pw (Z t) k)) = 0 := by
    rw [gsum_congr (g := fun _ => 0) (fun t ht => by rw [h t ht, GF.mul_zero]), gsum_zero]
  have e2 : gsum m (fun t => y t * gsum m (fun k => d k * GF.pw (Z t) k)) = gsum m (fun k => d k * gsum m (fun t => toG (M k t) * y t)) := by
    rw [gsum_congr (g := fun t => gsum m (fun k => y t * (d k * GF.pw (Z t) k))) (fun t ht => (gsum_mul _ _ _).symm), gsum_comm]
    refine gsum_congr fun k hk => ?_
    rw [← gsum_mul]
    exact gsum_congr fun t ht => by rw [hMt k t ht]; ac_rfl
  rw [e2, gsum_single m _ k0 hk0 (fun k hk hne => by rw [hy k hk, hMm k, if_neg hne, GF.mul_zero]), hy k0 hk0, hMm k0, if_pos rfl, GF.mul_one] at e1
  exact e1
end Go.Proofs.Ytpkhgapifnjbeaa.G
end
section
namespace Go.Proofs.Ytpkhgapifnjbeaa.G
set_option linter.unusedVariables false
set_option linter.unusedSimpArgs false
open Go.RowKit Go.Proofs.YtpkhgapifnjbeaaW.PrintWords Go.Proofs.YtpkhgapifnjbeaaW.PrintLast Go.Proofs.YtpkhgapifnjbeaaW.PrintMore Go.Proofs.Ytpkhgapifnjbeaa.Rs
open Go.Proofs.Ytpkhgapifnjbeaa.L
theorem range_map_len (n : Nat) (f : Nat → Int) : ((List.range n).map f).length = n := by simp
theorem range_set (n j : Nat) (f g : Nat → Int) (x : Int) (hx : j < n → g j = x) (hg : ∀ i, i < n → i ≠ j → g i = f i) : ((List.range n).map f).set j x = (List.range n).map g := by
  apply List.ext_getElem
  · simp
  · intro i h1 h2
    rw [List.getElem_set]
    simp only [List.getElem_map, List.getElem_range]
    simp only [List.length_map, List.length_range] at h2
    by_cases e : j = i
    · subst e; rw [if_pos rfl, hx h2]
    · rw [if_neg e, hg i h2 (fun q => e q.symm)]
def sumI (n : Nat) (L : List Int) (i : Nat) : Nat → Int
  | 0 => 1
  | k + 1 => xorI (sumI n L i k) (mulI (L.getD k 0) (atI n (i : Int) (-(k : Int) - 1)))
def locP (l L : List Int) (i : Nat) : Bool := decide (l.getD i 0 ≠ -1) && decide (sumI l.length L i L.length = 0)
theorem posN_len (P : Nat → Bool) (m : Nat) : (posN P m).length ≤ m := by
  induction m with
  | zero => exact Nat.le_refl _
  | succ m ih => simp only [posN, List.length_append]; split <;> simp <;> omega
theorem loc_l7 (l L : List Int) (n i : Nat) (hL : L.length ≤ 10) (hi : i < 100) (r : List Int × Bool) (K : Nat)
    (hc : ∀ k, K ≤ k → rscode_locate.l6 k l (n : Int) L (posN (locP l L) (i + 1)) l (l.length : Int) ((i + 1 : Nat) : Int) = some r) :
    ∀ (d q k : Nat), q + d = L.length → K + d < k → rscode_locate.l7 k l (n : Int) L (posN (locP l L) i) (i : Int) (l.getD i 0) (sumI l.length L i q) l (l.length : Int) (i : Int) L (L.length : Int) (q : Int) = some r := by
  have hs : wrap64 ((i : Int) + 1) = ((i + 1 : Nat) : Int) := by unfold wrap64; omega
  intro d
  induction d with
  | zero =>
    intro q k hq hk
    obtain ⟨k, rfl⟩ : ∃ m, k = m + 1 := ⟨k - 1, by omega⟩
    obtain rfl : q = L.length := by omega
    have hcc := hc k (by omega)
    simp only [posN] at hcc
    have hpl := posN_len (locP l L) i
    simp only [rscode_locate.l7]
    rw [if_neg (by omega), hs]
    by_cases h1 : l.getD i 0 = -1
    · rw [if_pos h1]
      rwa [if_neg (by unfold locP; simp only [Bool.and_eq_true, decide_eq_true_eq]; exact fun h => h.1 h1), List.append_nil] at hcc
    · rw [if_neg h1]
      by_cases h2 : sumI l.length L i L.length = 0
      · rw [if_pos h2, if_pos (by omega)]
        rwa [if_pos (by unfold locP; simp only [Bool.and_eq_true, decide_eq_true_eq]; exact ⟨h1, h2⟩)] at hcc
      · rw [if_neg h2]
        rwa [if_neg (by unfold locP; simp only [Bool.and_eq_true, decide_eq_true_eq]; exact fun h => h2 h.2), List.append_nil] at hcc
  | succ d ih =>
    intro q k hq hk
    obtain ⟨k, rfl⟩ : ∃ m, k = m + 1 := ⟨k - 1, by omega⟩
    have hs2 : wrap64 ((q : Int) + 1) = ((q + 1 : Nat) : Int) := by unfold wrap64; omega
    have hs3 : wrap64 (wrap64 (-(q : Int)) - 1) = -(q : Int) - 1 := by unfold wrap64; omega
    simp only [rscode_locate.l7]
    rw [if_pos (by omega), if_pos (by omega), if_pos (by omega), rd_cast, hs2, hs3]
    simp only [g_at.f, g_times.f, g_plus.f, Option.bind_some]
    exact ih (q + 1) k (by omega) (by omega)
theorem loc_l6 (l L : List Int) (n : Nat) (hL : L.length ≤ 10) (hl : l.length ≤ 15) : ∀ (d i k : Nat), i + d = l.length → d * 20 + 1 < k → rscode_locate.l6 k l (n : Int) L (posN (locP l L) i) l (l.length : Int) (i : Int) = some (posN (locP l L) l.length, (((posN (locP l L) l.length).length : Int) == (n : Int))) := by
  intro d
  induction d with
  | zero =>
    intro i k hi hk
    obtain ⟨k, rfl⟩ : ∃ m, k = m + 1 := ⟨k - 1, by omega⟩
    obtain rfl : i = l.length := by omega
    simp only [rscode_locate.l6]
    rw [if_neg (by omega)]
  | succ d ih =>
    intro i k hi hk
    obtain ⟨k, rfl⟩ : ∃ m, k = m + 1 := ⟨k - 1, by omega⟩
    simp only [rscode_locate.l6]
    rw [if_pos (by omega), if_pos (by omega), if_pos (by omega), rd_cast]
    exact loc_l7 l L n i hL (by omega) _ (d * 20 + 2) (fun k hk => ih (i + 1) k (by omega) (by omega)) L.length 0 k (by omega) (by omega)
def rowL (x : List Int) (n j : Nat) : List Int := (List.range n).map fun k => x.getD (j + n - 1 - k) 0
def matL (x : List Int) (n : Nat) : Nat → List (List Int)
  | 0 => []
  | j + 1 => matL x n j ++ [rowL x n j ++ [x.getD (j + n) 0]]
theorem matL_length (x : List Int) (n j : Nat) : (matL x n j).length = j := by
  induction j with
  | zero => rfl
  | succ j ih => simp [matL, ih]
theorem matL_row (x : List Int) (n : Nat) : ∀ (j i : Nat), i < j → (matL x n j).getD i [] = rowL x n i ++ [x.getD (i + n) 0] := by
  intro j
  induction j with
  | zero => intro i hi; omega
  | succ j ih =>
    intro i hi
    simp only [matL]
    rcases Nat.lt_or_ge i j with h | h
    · rw [List.getD_eq_getElem?_getD, List.getElem?_append_left (by rw [matL_length]; exact h), ← List.getD_eq_getElem?_getD, ih i h]
    · obtain rfl : i = j := by omega
      rw [List.getD_eq_getElem?_getD, List.getElem?_append_right (by rw [matL_length]; exact Nat.le_refl _), matL_length]
      simp
theorem matOf_L (x : List Int) (n R i k : Nat) (hi : i < R) : matOf (matL x n R) i k = if k < n then x.getD (i + n - 1 - k) 0 else if k = n then x.getD (i + n) 0 else 0 := by
  unfold matOf
  rw [matL_row x n R i hi]
  by_cases h1 : k < n
  · rw [if_pos h1, List.getD_eq_getElem?_getD, List.getElem?_append_left (by simpa [rowL] using h1)]
    unfold rowL
    rw [List.getElem?_map, List.getElem?_range h1]; rfl
  · rw [if_neg h1]
    by_cases h2 : k = n
    · rw [if_pos h2, List.getD_eq_getElem?_getD, List.getElem?_append_right (by simp [rowL]; omega)]
      simp [rowL, h2]
    · rw [if_neg h2, List.getD_eq_getElem?_getD, List.getElem?_eq_none (by simp [rowL]; omega)]; rfl
theorem solve_L (x : List Int) (n R : Nat) (hR : 1 ≤ R) (hR2 : R ≤ 100) (hn : n ≤ 100) : g_solve.f (matL x n R) = some (solR R n (matOf (matL x n R))) := by
  have hrow : ∀ y ∈ matL x n R, y.length = n + 1 := by
    intro y hy
    obtain ⟨i, hi, rfl⟩ := List.mem_iff_getElem.1 hy
    have := matL_row x n R i (by rwa [matL_length] at hi)
    rw [List.getD_eq_getElem?_getD, List.getElem?_eq_getElem hi] at this
    simp only [Option.getD_some] at this
    rw [this]; simp [rowL]
  have hh : ((matL x n R).headD []).length = n + 1 := by
    have h0 := matL_row x n R 0 (by omega)
    rw [List.headD_eq_head?_getD, List.head?_eq_getElem?, ← List.getD_eq_getElem?_getD, h0]
    simp [rowL]
  unfold g_solve.f
  rw [hh, if_pos (by unfold rowsOk; rw [matL_length]; simp only [Bool.and_eq_true, decide_eq_true_eq, List.all_eq_true]; exact ⟨by omega, hrow⟩), matL_length, Nat.add_sub_cancel]
def locEnd (l x : List Int) (n R : Nat) : List Int × Bool :=
  if (solR R n (matOf (matL x n R))).2 = true then (posN (locP l (solR R n (matOf (matL x n R))).1) l.length, (((posN (locP l (solR R n (matOf (matL x n R))).1) l.length).length : Int) == (n : Int))) else ([], false)
theorem loc_l5 (l x : List Int) (n R j : Nat) (hx : x.length ≤ 6) (hn : n ≤ 6) (hj : j + n < x.length) (r : List Int × Bool) (K : Nat)
    (hc : ∀ k, K ≤ k → rscode_locate.l4 k l (n : Int) x (matL x n (j + 1)) (R : Int) ((j + 1 : Nat) : Int) = some r) :
    ∀ (d q k : Nat), q + d = n → K + d < k → rscode_locate.l5 k l (n : Int) x (matL x n j) (j : Int) ((List.range q).map fun k => x.getD (j + n - 1 - k) 0) ((q + 1 : Nat) : Int) (R : Int) (j : Int) = some r := by
  have hs : wrap64 ((j : Int) + 1) = ((j + 1 : Nat) : Int) := by unfold wrap64; omega
  have hs1 : wrap64 ((j : Int) + (n : Int)) = ((j + n : Nat) : Int) := by unfold wrap64; omega
  intro d
  induction d with
  | zero =>
    intro q k hq hk
    obtain ⟨k, rfl⟩ : ∃ m, k = m + 1 := ⟨k - 1, by omega⟩
    obtain rfl : q = n := by omega
    simp only [rscode_locate.l5]
    rw [if_neg (by omega), hs1, if_pos (by omega), if_pos (by omega), if_pos (by rw [range_map_len]; omega), if_pos (by rw [matL_length]; omega), hs, rd_cast]
    exact hc k (by omega)
  | succ d ih =>
    intro q k hq hk
    obtain ⟨k, rfl⟩ : ∃ m, k = m + 1 := ⟨k - 1, by omega⟩
    have hs2 : wrap64 (((q + 1 : Nat) : Int) + 1) = ((q + 1 + 1 : Nat) : Int) := by unfold wrap64; omega
    have hs3 : wrap64 (((j + n : Nat) : Int) - ((q + 1 : Nat) : Int)) = ((j + n - 1 - q : Nat) : Int) := by unfold wrap64; omega
    simp only [rscode_locate.l5]
    rw [if_pos (by omega), hs1, hs3, if_pos (by omega), if_pos (by omega), if_pos (by rw [range_map_len]; omega), hs2, rd_cast]
    have := ih (q + 1) k (by omega) (by omega)
    rwa [List.range_succ, List.map_append] at this
theorem loc_l4 (l x : List Int) (n R : Nat) (hl : l.length ≤ 15) (hx : x.length ≤ 6) (hn : n ≤ 6) (hR : 1 ≤ R) (hRx : R + n = x.length) : ∀ (d j k : Nat), j + d = R → 400 + d * 20 < k → rscode_locate.l4 k l (n : Int) x (matL x n j) (R : Int) (j : Int) = some (locEnd l x n R) := by
  intro d
  induction d with
  | zero =>
    intro j k hj hk
    obtain ⟨k, rfl⟩ : ∃ m, k = m + 1 := ⟨k - 1, by omega⟩
    obtain rfl : j = R := by omega
    simp only [rscode_locate.l4]
    rw [if_neg (by omega), solve_L x n j hR (by omega) (by omega)]
    simp only [Option.bind_some]
    unfold locEnd
    by_cases h2 : (solR j n (matOf (matL x n j))).2 = true
    · rw [if_pos h2, if_pos h2]
      exact loc_l6 l _ n (by rw [solR_len h2]; omega) hl l.length 0 k (by omega) (by omega)
    · rw [if_neg h2, if_neg h2]
  | succ d ih =>
    intro j k hj hk
    obtain ⟨k, rfl⟩ : ∃ m, k = m + 1 := ⟨k - 1, by omega⟩
    simp only [rscode_locate.l4]
    rw [if_pos (by omega)]
    exact loc_l5 l x n R j hx hn (by omega) _ (400 + d * 20 + 1) (fun k hk => ih (j + 1) k (by omega) (by omega)) n 0 k (by omega) (by omega)
end Go.Proofs.Ytpkhgapifnjbeaa.G
end
section
namespace Go.Proofs.Ytpkhgapifnjbeaa.G
set_option linter.unusedVariables false
set_option linter.unusedSimpArgs false
open Go.RowKit Go.Proofs.YtpkhgapifnjbeaaW.PrintWords Go.Proofs.YtpkhgapifnjbeaaW.PrintLast Go.Proofs.YtpkhgapifnjbeaaW.PrintMore Go.Proofs.Ytpkhgapifnjbeaa.Rs
open Go.Proofs.Ytpkhgapifnjbeaa.L
theorem wrap_add (a b : Nat) (h : a + b < 1000000) : wrap64 ((a : Int) + (b : Int)) = ((a + b : Nat) : Int) := by unfold wrap64; omega
theorem wrap_sub (a b : Nat) (h : b ≤ a) (h2 : a < 1000000) : wrap64 ((a : Int) - (b : Int)) = ((a - b : Nat) : Int) := by unfold wrap64; omega
def prodL (X : Nat → GF) (m : Nat) : List Int := (List.range (m + 1)).map fun k => ofG (pc X m k)
def mixP (X : Nat → GF) (i c : Nat) : List Int := (List.range (i + 2)).map fun j => ofG (if c < j then pc X (i + 1) j else pc X i j)
def restP (l ps : List Int) (j k : Nat) : GF := gsum k (fun k => pc (XP l.length ps) ps.length k * psum l (j + ps.length - k + 1) l.length)
theorem restP_succ (l ps : List Int) (j k : Nat) : restP l ps j (k + 1) = restP l ps j k + pc (XP l.length ps) ps.length k * psum l (j + ps.length - k + 1) l.length := rfl
theorem restP_zero (l ps : List Int) (j : Nat) : ofG (restP l ps j 0) = 0 := rfl
def restG (l ps : List Int) (j : Nat) : GF := restP l ps j (ps.length + 1)
def restL (l ps : List Int) : List Int := (List.range (6 - ps.length)).map fun j => ofG (restG l ps j)
def locR (l ps : List Int) (n : Nat) : List Int × Bool := if n = 0 then ([], true) else locEnd l (restL l ps) n (6 - ps.length - n)
theorem syn_at (l : List Int) (m : Nat) (hm : m < 6) : (synI l).getD m 0 = ofG (psum l (m + 1) l.length) := by
  unfold synI; rw [getD_range 6 m _ hm]
theorem pw_one (x : GF) : GF.pw x 1 = x := by show GF.pw x 0 * x = x; exact GF.one_mul x
theorem loc_l1 (l ps : List Int) (n i : Nat) (hl : l.length ≤ 15) (hp : placesOk l.length ps) (hi : i < ps.length) (r : List Int × Bool) (K : Nat)
    (hc : ∀ k, K ≤ k → rscode_locate.l0 k l ps (n : Int) (prodL (XP l.length ps) (i + 1)) ps (ps.length : Int) ((i + 1 : Nat) : Int) = some r) :
    ∀ (c k : Nat), c ≤ i + 1 → K + c < k → rscode_locate.l1 k l ps (n : Int) (mixP (XP l.length ps) i c) (ps.getD i 0) (c : Int) ps (ps.length : Int) (i : Int) = some r := by
  obtain ⟨hp0, hp1⟩ := hp.2 i hi
  have h6 := hp.1
  have hs : wrap64 ((i : Int) + 1) = ((i + 1 : Nat) : Int) := by unfold wrap64; omega
  intro c
  induction c with
  | zero =>
    intro k hc' hk
    obtain ⟨k, rfl⟩ : ∃ m, k = m + 1 := ⟨k - 1, by omega⟩
    simp only [rscode_locate.l1]
    rw [if_neg (by omega), hs]
    have e : mixP (XP l.length ps) i 0 = prodL (XP l.length ps) (i + 1) := by
      unfold mixP prodL
      refine List.map_congr_left fun j hj => ?_
      by_cases h0 : 0 < j
      · rw [if_pos h0]
      · rw [if_neg h0, show j = 0 from by omega, pc_zero, pc_zero]
    rw [e]
    exact hc k (by omega)
  | succ c ih =>
    intro k hc' hk
    obtain ⟨k, rfl⟩ : ∃ m, k = m + 1 := ⟨k - 1, by omega⟩
    have hs2 : wrap64 (((c + 1 : Nat) : Int) - 1) = (c : Int) := by unfold wrap64; omega
    have hlen : (mixP (XP l.length ps) i (c + 1)).length = i + 2 := by simp [mixP]
    simp only [rscode_locate.l1]
    rw [if_pos (by omega), if_pos (by omega), if_pos (by rw [hlen]; omega), hs2, if_pos (by omega), if_pos (by rw [hlen]; omega), rd_cast, rd_cast]
    simp only [g_at.f, g_times.f, g_plus.f, Option.bind_some]
    have ha : atI l.length (ps.getD i 0) 1 = ofG (XP l.length ps i) := by
      have := atI_eq (n := l.length) (by omega) hp0 hp1 1 (by omega)
      rw [pw_one] at this
      exact this
    have e1 : (mixP (XP l.length ps) i (c + 1)).getD c 0 = ofG (pc (XP l.length ps) i c) := by
      unfold mixP; rw [getD_range _ c _ (by omega), if_neg (by omega)]
    have e2 : (mixP (XP l.length ps) i (c + 1)).getD (c + 1) 0 = ofG (pc (XP l.length ps) i (c + 1)) := by
      unfold mixP; rw [getD_range _ (c + 1) _ (by omega), if_neg (by omega)]
    rw [ha, e1, e2, mulI_of, xorI_of, Int.toNat_natCast]
    have e3 : (mixP (XP l.length ps) i (c + 1)).set (c + 1) (ofG (pc (XP l.length ps) i (c + 1) + pc (XP l.length ps) i c * XP l.length ps i)) = mixP (XP l.length ps) i c := by
      unfold mixP
      refine range_set _ _ _ _ _ (fun _ => ?_) (fun j hj hne => ?_)
      · rw [if_pos (by omega)]
        simp only [pc]
        rw [if_neg (by omega), Nat.add_sub_cancel]
      · by_cases h : c < j
        · rw [if_pos h, if_pos (by omega)]
        · rw [if_neg h, if_neg (by omega)]
    rw [e3]
    exact ih k (by omega) (by omega)
def restT (l ps : List Int) (j k : Nat) : List Int := (List.range (6 - ps.length)).map fun t => if t < j then ofG (restG l ps t) else if t = j then ofG (restP l ps j k) else 0
theorem loc_l3 (l ps : List Int) (n j : Nat) (hp : placesOk l.length ps) (hj : j < 6 - ps.length) (r : List Int × Bool) (K : Nat)
    (hc : ∀ k, K ≤ k → rscode_locate.l2 k l ps (n : Int) (prodL (XP l.length ps) ps.length) (synI l) (restT l ps (j + 1) 0) ((6 - ps.length : Nat) : Int) ((j + 1 : Nat) : Int) = some r) :
    ∀ (d q k : Nat), q + d = ps.length + 1 → K + d < k → rscode_locate.l3 k l ps (n : Int) (prodL (XP l.length ps) ps.length) (synI l) (restT l ps j q) (j : Int) ((6 - ps.length : Nat) : Int) (j : Int) (prodL (XP l.length ps) ps.length) ((ps.length + 1 : Nat) : Int) (q : Int) = some r := by
  have h6 := hp.1
  have hs : wrap64 ((j : Int) + 1) = ((j + 1 : Nat) : Int) := by unfold wrap64; omega
  have hpl := Lib.hid (show (prodL (XP l.length ps) ps.length).length = ps.length + 1 from by simp [prodL])
  have hsl := Lib.hid (show (synI l).length = 6 from by simp [synI])
  intro d
  induction d with
  | zero =>
    intro q k hq hk
    obtain ⟨k, rfl⟩ : ∃ m, k = m + 1 := ⟨k - 1, by omega⟩
    obtain rfl : q = ps.length + 1 := by omega
    simp only [rscode_locate.l3]
    rw [if_neg (by omega), hs]
    have e : restT l ps j (ps.length + 1) = restT l ps (j + 1) 0 := by
      unfold restT
      refine List.map_congr_left fun t ht => ?_
      by_cases h1 : t < j
      · rw [if_pos h1, if_pos (by omega)]
      · rw [if_neg h1]
        by_cases h2 : t = j
        · rw [if_pos h2, if_pos (by omega), h2, restG]
        · rw [if_neg h2, if_neg (by omega)]
          by_cases h3 : t = j + 1
          · rw [if_pos h3, restP_zero]
          · rw [if_neg h3]
    rw [e]
    exact hc k (by omega)
  | succ d ih =>
    intro q k hq hk
    obtain ⟨k, rfl⟩ : ∃ m, k = m + 1 := ⟨k - 1, by omega⟩
    have hs2 : wrap64 ((q : Int) + 1) = ((q + 1 : Nat) : Int) := by unfold wrap64; omega
    have hjo : j + ps.length ≤ 20 := by omega
    have hqo : q ≤ j + ps.length := by omega
    have hs4 : wrap64 ((j : Int) + (ps.length : Int)) = ((j + ps.length : Nat) : Int) := wrap_add j ps.length (Nat.lt_of_le_of_lt hjo (by decide))
    have hs3 : wrap64 (((j + ps.length : Nat) : Int) - (q : Int)) = ((j + ps.length - q : Nat) : Int) := wrap_sub (j + ps.length) q hqo (Nat.lt_of_le_of_lt hjo (by decide))
    have hq5 : j + ps.length - q < 6 := by omega
    have hrl := Lib.hid (show (restT l ps j q).length = 6 - ps.length from by simp [restT])
    simp only [rscode_locate.l3]
    rw [if_pos (by omega), if_pos (by omega), if_pos (by rw [hpl.out]; omega), if_pos (by omega), if_pos (by rw [hrl.out]; omega), hs4, hs3, if_pos (Int.natCast_nonneg _), if_pos (by rw [hsl.out]; omega), rd_cast, rd_cast, rd_cast, hs2]
    simp only [g_times.f, g_plus.f, Option.bind_some]
    have e1 : (prodL (XP l.length ps) ps.length).getD q 0 = ofG (pc (XP l.length ps) ps.length q) := by unfold prodL; rw [getD_range _ q _ (by omega)]
    have e2 : (restT l ps j q).getD j 0 = ofG (restP l ps j q) := by
      unfold restT; rw [getD_range _ j _ hj, if_neg (by omega), if_pos rfl]
    rw [e1, e2, syn_at l _ (by omega), mulI_of, xorI_of, Int.toNat_natCast]
    have e3 : (restT l ps j q).set j (ofG (restP l ps j q + pc (XP l.length ps) ps.length q * psum l (j + ps.length - q + 1) l.length)) = restT l ps j (q + 1) := by
      unfold restT
      refine range_set _ _ _ _ _ (fun _ => ?_) (fun t ht hne => ?_)
      · rw [if_neg (by omega), if_pos rfl, restP_succ]
      · by_cases h1 : t < j
        · rw [if_pos h1, if_pos h1]
        · rw [if_neg h1, if_neg h1, if_neg hne, if_neg hne]
    rw [e3]
    exact ih (q + 1) k (by omega) (by omega)
theorem loc_l2 (l ps : List Int) (n : Nat) (hl : l.length ≤ 15) (hp : placesOk l.length ps) (hn : ps.length + 2 * n ≤ 6) : ∀ (d j k : Nat), j + d = 6 - ps.length → 550 + d * 10 < k → rscode_locate.l2 k l ps (n : Int) (prodL (XP l.length ps) ps.length) (synI l) (restT l ps j 0) ((6 - ps.length : Nat) : Int) (j : Int) = some (locR l ps n) := by
  have h6 := hp.1
  intro d
  induction d with
  | zero =>
    intro j k hj hk
    obtain ⟨k, rfl⟩ : ∃ m, k = m + 1 := ⟨k - 1, by omega⟩
    obtain rfl : j = 6 - ps.length := by omega
    simp only [rscode_locate.l2]
    rw [if_neg (by omega)]
    unfold locR
    by_cases h0 : n = 0
    · rw [if_pos (by omega), if_pos h0]
    · rw [if_neg (by omega), if_neg h0]
      have e : restT l ps (6 - ps.length) 0 = restL l ps := by
        unfold restT restL
        refine List.map_congr_left fun t ht => ?_
        rw [if_pos (by simpa using ht)]
      have hrl := Lib.hid (show (restL l ps).length = 6 - ps.length from by simp [restL])
      have hs : wrap64 (((restL l ps).length : Int) - (n : Int)) = ((6 - ps.length - n : Nat) : Int) := by rw [hrl.out]; unfold wrap64; omega
      rw [e, hs]
      exact loc_l4 l (restL l ps) n (6 - ps.length - n) hl (by rw [hrl.out]; omega) (by omega) (by omega) (by rw [hrl.out]; omega) (6 - ps.length - n) 0 k (by omega) (by omega)
  | succ d ih =>
    intro j k hj hk
    obtain ⟨k, rfl⟩ : ∃ m, k = m + 1 := ⟨k - 1, by omega⟩
    have hpl := Lib.hid (show (prodL (XP l.length ps) ps.length).length = ps.length + 1 from by simp [prodL])
    simp only [rscode_locate.l2]
    rw [if_pos (by omega), hpl.out]
    exact loc_l3 l ps n j hp (by omega) _ (550 + d * 10 + 1) (fun k hk => ih (j + 1) k (by omega) (by omega)) (ps.length + 1) 0 k (by omega) (by omega)
theorem loc_l0 (l ps : List Int) (n : Nat) (hl : l.length ≤ 15) (hp : placesOk l.length ps) (hn : ps.length + 2 * n ≤ 6) : ∀ (d i k : Nat), i + d = ps.length → 620 + d * 10 < k → rscode_locate.l0 k l ps (n : Int) (prodL (XP l.length ps) i) ps (ps.length : Int) (i : Int) = some (locR l ps n) := by
  have h6 := hp.1
  intro d
  induction d with
  | zero =>
    intro i k hi hk
    obtain ⟨k, rfl⟩ : ∃ m, k = m + 1 := ⟨k - 1, by omega⟩
    obtain rfl : i = ps.length := by omega
    have hs : wrap64 (6 - (ps.length : Int)) = ((6 - ps.length : Nat) : Int) := by unfold wrap64; omega
    simp only [rscode_locate.l0]
    rw [if_neg (by omega)]
    unfold g_syn.f
    rw [if_pos hl]
    simp only [Option.bind_some]
    rw [hs, if_pos (by omega), if_pos (by omega), Int.toNat_natCast]
    have e : List.replicate (6 - ps.length) (0 : Int) = restT l ps 0 0 := by
      unfold restT
      apply List.ext_getElem
      · simp
      · intro t h1 h2
        simp only [List.getElem_replicate, List.getElem_map, List.getElem_range]
        rw [if_neg (by omega)]
        by_cases h3 : t = 0
        · rw [if_pos h3, restP_zero]
        · rw [if_neg h3]
    rw [List.length_replicate, e]
    exact loc_l2 l ps n hl hp hn (6 - ps.length) 0 k (by omega) (by omega)
  | succ d ih =>
    intro i k hi hk
    obtain ⟨k, rfl⟩ : ∃ m, k = m + 1 := ⟨k - 1, by omega⟩
    have hpl := Lib.hid (show (prodL (XP l.length ps) i).length = i + 1 from by simp [prodL])
    simp only [rscode_locate.l0]
    rw [if_pos (by omega), if_pos (by omega), if_pos (by omega), if_pos (by rw [hpl.out]; omega)]
    simp only [Option.bind_some]
    have hs : wrap64 (((prodL (XP l.length ps) i ++ [0]).length : Int) - 1) = ((i + 1 : Nat) : Int) := by
      rw [List.length_append, hpl.out, List.length_singleton]; unfold wrap64; omega
    have e : prodL (XP l.length ps) i ++ [0] = mixP (XP l.length ps) i (i + 1) := by
      unfold prodL mixP
      rw [List.range_succ (n := i + 1), List.map_append]
      congr 1
      · refine List.map_congr_left fun j hj => ?_
        rw [if_neg (by have := List.mem_range.1 hj; omega)]
      · simp only [List.map_cons, List.map_nil]
        rw [if_neg (by omega), pc_hi _ _ _ (by omega)]; rfl
    rw [hs, e, rd_cast]
    exact loc_l1 l ps n i hl hp (by omega) _ (620 + d * 10 + 1) (fun k hk => ih (i + 1) k (by omega) (by omega)) (i + 1) k (Nat.le_refl _) (by omega)
theorem loc_f (l ps : List Int) (n : Nat) (hl : l.length ≤ 15) (hp : placesOk l.length ps) (hn : ps.length + 2 * n ≤ 6) (k : Nat) (hk : 1000 ≤ k) : rscode_locate.f k l ps (n : Int) = some (locR l ps n) := by
  have h6 := hp.1
  unfold rscode_locate.f
  have e : ([1] : List Int) = prodL (XP l.length ps) 0 := by
    simp only [prodL, List.range_succ, List.range_zero, List.nil_append, List.map_cons, List.map_nil, pc_zero]; rfl
  rw [e]
  exact loc_l0 l ps n hl hp hn ps.length 0 k (by omega) (by omega)
theorem loc_closed (l ps : List Int) (n : Nat) (hl : l.length ≤ 15) (hp : placesOk l.length ps) (hn : ps.length + 2 * n ≤ 6) : g_loc.f l ps (n : Int) = some (locR l ps n) := loc_f l ps n hl hp hn 2000 (by omega)
end Go.Proofs.Ytpkhgapifnjbeaa.G
end
section
namespace Go.Proofs.Ytpkhgapifnjbeaa.G
set_option linter.unusedVariables false
set_option linter.unusedSimpArgs false
open Go.RowKit Go.Proofs.Ytpkhgapifnjbeaa.Rs
theorem gsum_split (a b : Nat) (f : Nat → GF) : gsum (a + b) f = gsum a f + gsum b (fun k => f (a + k)) := by
  induction b with
  | zero => exact (GF.add_zero _).symm
  | succ b ih =>
    show gsum (a + b) f + f (a + b) = gsum a f + (gsum b (fun k => f (a + k)) + f (a + b))
    rw [ih, GF.add_assoc]
theorem gsum_rev (n : Nat) (f : Nat → GF) : gsum n (fun k => f (n - 1 - k)) = gsum n f := by
  induction n with
  | zero => rfl
  | succ n ih =>
    rw [gsum_shift]
    show f (n + 1 - 1 - 0) + _ = gsum n f + f n
    rw [GF.add_comm, ← ih, show n + 1 - 1 - 0 = n from by omega]
    congr 1
    exact gsum_congr fun k hk => by rw [show n + 1 - 1 - (k + 1) = n - 1 - k from by omega]
def errP (w c : List Int) (i : Nat) : Bool := decide (0 ≤ w.getD i 0) && decide (w.getD i 0 ≠ c.getD i 0)
theorem errP_iff {w c : List Int} {i : Nat} : errP w c i = true ↔ 0 ≤ w.getD i 0 ∧ w.getD i 0 ≠ c.getD i 0 := by
  unfold errP; simp only [Bool.and_eq_true, decide_eq_true_eq]
def errL (w c : List Int) : List Int := posN (errP w c) w.length
theorem errL_len (w c : List Int) : (errL w c).length = errN w c w.length := (errN_pos w c w.length).symm
theorem errL_mem (w c : List Int) (i : Nat) : (i : Int) ∈ errL w c ↔ i < w.length ∧ errP w c i = true := by
  unfold errL
  rw [mem_posN]
  constructor
  · rintro ⟨j, h1, h2, h3⟩
    rw [show i = j from by omega]; exact ⟨h1, h2⟩
  · rintro ⟨h1, h2⟩; exact ⟨i, h1, h2, rfl⟩
theorem XP_app_l (n : Nat) (a b : List Int) (k : Nat) (hk : k < a.length) : XP n (a ++ b) k = XP n a k := by
  unfold XP PS
  rw [List.getD_eq_getElem?_getD, List.getElem?_append_left hk, ← List.getD_eq_getElem?_getD]
theorem XP_app_r (n : Nat) (a b : List Int) (k : Nat) : XP n (a ++ b) (a.length + k) = XP n b k := by
  unfold XP PS
  rw [List.getD_eq_getElem?_getD, List.getElem?_append_right (by omega), Nat.add_sub_cancel_left, ← List.getD_eq_getElem?_getD]
theorem PS_app_r (a b : List Int) (k : Nat) : PS (a ++ b) (a.length + k) = PS b k := by
  unfold PS
  rw [List.getD_eq_getElem?_getD, List.getElem?_append_right (by omega), Nat.add_sub_cancel_left, ← List.getD_eq_getElem?_getD]
theorem all_D {w c : List Int} (h : (eraN w w.length).length + (errL w c).length ≤ 6) : placesD w.length (eraN w w.length ++ errL w c) := by
  refine sorted_D (by rw [List.length_append]; exact h) (List.nodup_append.2 ⟨by rw [eraN_pos]; exact posN_nodup _ _, posN_nodup _ _, fun a ha b hb e => ?_⟩) fun x hx => ?_
  · obtain ⟨i, h1, h2, rfl⟩ := (mem_posN _).1 hb
    rw [e] at ha
    have := ((era_mem w i).1 ha).2
    have := (errP_iff.1 h2).1
    omega
  · rcases List.mem_append.1 hx with hx | hx
    · rw [eraN_pos] at hx
      obtain ⟨i, h1, _, rfl⟩ := (mem_posN _).1 hx
      omega
    · obtain ⟨i, h1, _, rfl⟩ := (mem_posN _).1 hx
      omega
theorem all_agree {w c : List Int} (hl : c.length = w.length) : ∀ i, i < w.length → (∀ k, k < (eraN w w.length ++ errL w c).length → PS (eraN w w.length ++ errL w c) k ≠ i) → c.getD i 0 = w.getD i 0 := by
  intro i hi hk
  have hm : (i : Int) ∉ eraN w w.length ++ errL w c := fun hm => by obtain ⟨k, a, b⟩ := PS_mem hm; exact hk k a b
  have h1 : (i : Int) ∉ eraN w w.length := fun q => hm (List.mem_append_left _ q)
  have h2 : (i : Int) ∉ errL w c := fun q => hm (List.mem_append_right _ q)
  have h3 : ¬ w.getD i 0 < 0 := fun q => h1 ((era_mem w i).2 ⟨hi, q⟩)
  exact Classical.byContradiction fun q => h2 ((errL_mem w c i).2 ⟨hi, errP_iff.2 ⟨by omega, fun e => q e.symm⟩⟩)
section
variable {w c : List Int}
theorem syn_split (hw : isWord w (-1) = true) (h : Near w c) (j : Nat) (hj : j < 6) :
    psum w (j + 1) w.length = gsum (eraN w w.length).length (fun s => (vG (w.getD (PS (eraN w w.length) s) 0) + vG (c.getD (PS (eraN w w.length) s) 0)) * GF.pw (XP w.length (eraN w w.length) s) (j + 1))
      + gsum (errL w c).length (fun t => (vG (w.getD (PS (errL w c) t) 0) + vG (c.getD (PS (errL w c) t) 0)) * GF.pw (XP w.length (errL w c) t) (j + 1)) := by
  have hn := h.near
  have hD : placesD w.length (eraN w w.length ++ errL w c) := all_D (by rw [errL_len]; omega)
  have e := psum_diff (c := c) hD h.len (all_agree h.len) (j + 1)
  rw [(code_parts h.code).2 j hj, GF.add_zero, List.length_append, gsum_split] at e
  rw [e]
  congr 1
  · refine gsum_congr fun s hs => ?_
    rw [XP_app_l _ _ _ _ hs]
    congr 3 <;> (unfold PS; rw [List.getD_eq_getElem?_getD (l := eraN w w.length ++ errL w c), List.getElem?_append_left hs, ← List.getD_eq_getElem?_getD])
  · refine gsum_congr fun t ht => ?_
    rw [XP_app_r, PS_app_r]
def coefA (w c : List Int) (t : Nat) : GF := (vG (w.getD (PS (errL w c) t) 0) + vG (c.getD (PS (errL w c) t) 0)) * (XP w.length (errL w c) t * prodX (XP w.length (eraN w w.length)) (XP w.length (errL w c) t) (eraN w w.length).length)
theorem rest_one (X : Nat → GF) (o j : Nat) (a z : GF) : gsum (o + 1) (fun k => pc X o k * (a * GF.pw z (j + o - k + 1))) = a * (z * prodX X z o) * GF.pw z j := by
  rw [← pc_ev X z o]
  have : a * (z * gsum (o + 1) (fun k => pc X o k * GF.pw z (o - k))) * GF.pw z j = (a * z * GF.pw z j) * gsum (o + 1) (fun k => pc X o k * GF.pw z (o - k)) := by ac_rfl
  rw [this, ← gsum_mul]
  refine gsum_congr fun k hk => ?_
  rw [show j + o - k + 1 = (j + (o - k)) + 1 from by omega, pw_succ, GF.pw_add]
  ac_rfl
theorem rest_eq (hw : isWord w (-1) = true) (h : Near w c) (j : Nat) (hj : j + (eraN w w.length).length < 6) :
    restG w (eraN w w.length) j = gsum (errL w c).length (fun t => coefA w c t * GF.pw (XP w.length (errL w c) t) j) := by
  obtain ⟨o, ho⟩ : ∃ o, o = (eraN w w.length).length := ⟨_, rfl⟩
  obtain ⟨X, hX⟩ : ∃ X, X = XP w.length (eraN w w.length) := ⟨_, rfl⟩
  obtain ⟨Z, hZ⟩ : ∃ Z, Z = XP w.length (errL w c) := ⟨_, rfl⟩
  obtain ⟨a, ha⟩ : ∃ a : Nat → GF, a = fun s => vG (w.getD (PS (eraN w w.length) s) 0) + vG (c.getD (PS (eraN w w.length) s) 0) := ⟨_, rfl⟩
  obtain ⟨b, hb⟩ : ∃ b : Nat → GF, b = fun t => vG (w.getD (PS (errL w c) t) 0) + vG (c.getD (PS (errL w c) t) 0) := ⟨_, rfl⟩
  have hs : ∀ j, j < 6 → psum w (j + 1) w.length = gsum o (fun s => a s * GF.pw (X s) (j + 1)) + gsum (errL w c).length (fun t => b t * GF.pw (Z t) (j + 1)) := by
    intro j hj
    rw [syn_split hw h j hj, ho, hX, hZ, ha, hb]
  unfold restG restP
  rw [← ho, ← hX]
  have e1 : gsum (o + 1) (fun k => pc X o k * psum w (j + o - k + 1) w.length) = gsum (o + 1) (fun k => gsum o (fun s => pc X o k * (a s * GF.pw (X s) (j + o - k + 1)))) + gsum (o + 1) (fun k => gsum (errL w c).length (fun t => pc X o k * (b t * GF.pw (Z t) (j + o - k + 1)))) := by
    rw [← gsum_add]
    refine gsum_congr fun k hk => ?_
    rw [hs (j + o - k) (by omega), GF.mul_add, gsum_mul, gsum_mul]
  rw [e1, gsum_comm, gsum_comm (o + 1)]
  rw [gsum_congr (n := o) (g := fun _ => 0) (fun s hs' => by
    rw [rest_one X o j (a s) (X s), (prodX_zero X (X s) o).2 ⟨s, hs', rfl⟩, GF.mul_zero, GF.mul_zero, GF.zero_mul]), gsum_zero, GF.zero_add]
  refine gsum_congr fun t ht => ?_
  rw [rest_one X o j (b t) (Z t)]
  unfold coefA
  rw [hb, hZ, hX, ← ho]
theorem errs_D (h : Near w c) : placesD w.length (errL w c) := posN_D (by have := h.near; have := errL_len w c; unfold errL at this; omega)
theorem coefA_ne (hw : isWord w (-1) = true) (h : Near w c) (t : Nat) (ht : t < (errL w c).length) : coefA w c t ≠ 0 := by
  obtain ⟨w1, w2, w3⟩ := word_parts hw
  have hn := h.near
  have hD := errs_D h
  have hm := mem_PS hD.1 ht
  obtain ⟨h1, h2⟩ := (errL_mem w c _).1 hm
  obtain ⟨h3, h4⟩ := errP_iff.1 h2
  unfold coefA
  refine GF.mul_ne_zero (fun e => h4 ?_) (GF.mul_ne_zero (XP_ne _ _ _) fun e => ?_)
  · have h5 := GF.eq_of_add e
    have e1 : isEl (w.getD (PS (errL w c) t) 0) = true := (isEl_iff _).2 (by have := w3 _ (getD_mem h1); omega)
    have e2 : isEl (c.getD (PS (errL w c) t) 0) = true := code_el h.code _ (by rw [h.len]; exact h1)
    rw [← ofG_vG e1, h5, ofG_vG e2]
  · obtain ⟨s, hs, e2⟩ := (prodX_zero _ _ _).1 e
    have hA : placesD w.length (eraN w w.length ++ errL w c) := all_D (by rw [errL_len]; omega)
    have := XP_inj (l := w) w2 hA ((eraN w w.length).length + t) s (by rw [List.length_append]; omega) (by rw [List.length_append]; omega) (by rw [XP_app_r, XP_app_l _ _ _ _ hs]; exact e2)
    omega
end
end Go.Proofs.Ytpkhgapifnjbeaa.G
end
section
namespace Go.Proofs.Ytpkhgapifnjbeaa.G
set_option linter.unusedVariables false
set_option linter.unusedSimpArgs false
open Go.RowKit Go.Proofs.Ytpkhgapifnjbeaa.Rs
theorem ex_neg (m : Nat) : GF.ex ((-(m : Int)) % 31).toNat * GF.ex m = 1 := by
  rw [← GF.ex_add, GF.ex_mod, show ((-(m : Int)) % 31).toNat + m = 31 * ((((-(m : Int)) % 31).toNat + m) / 31) from by omega, Nat.mul_mod_right]
  rfl
theorem inv_unique {a b u : GF} (h1 : a * u = 1) (h2 : b * u = 1) : a = b := by
  have : a * (b * u) = b * (a * u) := by ac_rfl
  rwa [h1, h2, GF.mul_one, GF.mul_one] at this
theorem atI_neg {n : Nat} (hn : n ≤ 100) {i : Nat} (hi : i < n) (k : Nat) (hk : k ≤ 100) (y : GF) (hy : y * GF.ex (n - 1 - i) = 1) : atI n (i : Int) (-(k : Int) - 1) = ofG (GF.pw y (k + 1)) := by
  unfold atI powI
  have e1 : wrap64 ((n : Int) - 1) = ((n - 1 : Nat) : Int) := by unfold wrap64; omega
  have e2 : wrap64 (((n - 1 : Nat) : Int) - (i : Int)) = ((n - 1 - i : Nat) : Int) := wrap_sub _ _ (by omega) (by omega)
  have hb : (k + 1) * (n - 1 - i) ≤ 101 * 100 := Nat.mul_le_mul (by omega) (by omega)
  have e4 : (-(k : Int) - 1) * ((n - 1 - i : Nat) : Int) = -(((k + 1) * (n - 1 - i) : Nat) : Int) := by
    rw [Int.natCast_mul, ← Int.neg_mul]; congr 1; omega
  rw [e1, e2, e4]
  generalize hm : (k + 1) * (n - 1 - i) = m at hb
  have e3 : wrap64 (-(m : Int)) = -(m : Int) := by unfold wrap64; omega
  rw [e3]
  congr 1
  refine inv_unique (ex_neg m) ?_
  rw [← hm, ex_pw, ← GF.mul_pw, hy, GF.pw_one]
theorem inv_ex (m : Nat) : GF.inv (GF.ex m) * GF.ex m = 1 := by rw [GF.mul_comm]; exact GF.mul_inv _ (GF.ex_ne_zero m)
section
variable {w c : List Int}
theorem vand_A (hw : isWord w (-1) = true) (h : Near w c) (D : Nat → GF) (hD : ∀ j, j < (errL w c).length → gsum (errL w c).length (fun t => (coefA w c t * D t) * GF.pw (XP w.length (errL w c) t) j) = 0) : ∀ t, t < (errL w c).length → D t = 0 := by
  obtain ⟨w1, w2, w3⟩ := word_parts hw
  intro t ht
  have := vand (errL w c).length (XP w.length (errL w c)) (fun t => coefA w c t * D t) 0 (fun _ _ => XP_ne _ _ _) (XP_inj (l := w) w2 (errs_D h)) (fun j hj => by
    rw [← hD j hj]; exact gsum_congr fun t ht => by rw [Nat.zero_add]) t ht
  exact (GF.mul_eq_zero _ _ this).elim (fun q => absurd q (coefA_ne hw h t ht)) id
theorem rest_comb (hw : isWord w (-1) = true) (h : Near w c) (y : Nat → GF) (j : Nat) (e : Nat) (he : e = (errL w c).length) (hj : j + e + (eraN w w.length).length ≤ 6) :
    gsum e (fun k => restG w (eraN w w.length) (j + e - 1 - k) * y k) = gsum e (fun t => (coefA w c t * gsum e (fun k => y k * GF.pw (XP w.length (errL w c) t) (e - 1 - k))) * GF.pw (XP w.length (errL w c) t) j) := by
  rw [gsum_congr (n := e) (g := fun k => gsum e (fun t => coefA w c t * GF.pw (XP w.length (errL w c) t) (j + e - 1 - k) * y k)) (fun k hk => by
    rw [rest_eq hw h _ (by omega), ← he, gsum_mul_r])]
  rw [gsum_comm]
  refine gsum_congr fun t ht => ?_
  have : coefA w c t * gsum e (fun k => y k * GF.pw (XP w.length (errL w c) t) (e - 1 - k)) * GF.pw (XP w.length (errL w c) t) j = (coefA w c t * GF.pw (XP w.length (errL w c) t) j) * gsum e (fun k => y k * GF.pw (XP w.length (errL w c) t) (e - 1 - k)) := by ac_rfl
  rw [this, ← gsum_mul]
  refine gsum_congr fun k hk => ?_
  rw [show j + e - 1 - k = j + (e - 1 - k) from by omega, GF.pw_add]
  ac_rfl
theorem restL_at (w ps : List Int) (t : Nat) (ht : t < 6 - ps.length) : (restL w ps).getD t 0 = ofG (restG w ps t) := by
  unfold restL; rw [getD_range _ t _ ht]
theorem matL_at (w ps : List Int) (n R i k : Nat) (hi : i < R) (hR : R + n + ps.length ≤ 6) (hn : 1 ≤ n) : toG (matOf (matL (restL w ps) n R) i k) = if k < n then restG w ps (i + n - 1 - k) else if k = n then restG w ps (i + n) else 0 := by
  rw [matOf_L _ n R i k hi]
  by_cases h1 : k < n
  · rw [if_pos h1, if_pos h1, restL_at _ _ _ (by omega), toG_ofG]
  · rw [if_neg h1, if_neg h1]
    by_cases h2 : k = n
    · rw [if_pos h2, if_pos h2, restL_at _ _ _ (by omega), toG_ofG]
    · rw [if_neg h2, if_neg h2]; rfl
theorem matL_el (w ps : List Int) (n R : Nat) (hR : R + n + ps.length ≤ 6) (hn : 1 ≤ n) : ElM R (n + 1) (matOf (matL (restL w ps) n R)) := by
  intro i k hi hk
  rw [matOf_L _ n R i k hi]
  split
  · rw [restL_at _ _ _ (by omega)]; exact isEl_ofG _
  · split
    · rw [restL_at _ _ _ (by omega)]; exact isEl_ofG _
    · rfl
theorem loc_indep (hw : isWord w (-1) = true) (h : Near w c) (e R : Nat) (he : e = (errL w c).length) (h1 : 1 ≤ e) (hR : R + e + (eraN w w.length).length ≤ 6) (heR : e ≤ R) : Indep R e (matOf (matL (restL w (eraN w w.length)) e R)) := by
  obtain ⟨w1, w2, w3⟩ := word_parts hw
  intro y hy
  have hD := vand_A hw h (fun t => gsum e (fun k => y k * GF.pw (XP w.length (errL w c) t) (e - 1 - k))) (fun j hj => by
    rw [← he] at hj ⊢
    rw [← rest_comb hw h y j e he (by omega), ← hy j (by omega)]
    exact gsum_congr fun k hk => by rw [matL_at _ _ _ _ _ _ (by omega) (by omega) h1, if_pos hk])
  have hr := roots e (XP w.length (errL w c)) (fun _ _ => XP_ne _ _ _) (by rw [he]; exact XP_inj (l := w) w2 (errs_D h)) (fun k => y (e - 1 - k)) (fun t ht => by
    rw [← hD t (by omega), ← gsum_rev]
    exact gsum_congr fun k hk => by rw [show e - 1 - (e - 1 - k) = k from by omega])
  intro k hk
  have : y (e - 1 - (e - 1 - k)) = 0 := hr (e - 1 - k) (by omega)
  rwa [show e - 1 - (e - 1 - k) = k from by omega] at this
theorem loc_sol (hw : isWord w (-1) = true) (h : Near w c) (e R : Nat) (he : e = (errL w c).length) (h1 : 1 ≤ e) (hR : R + e + (eraN w w.length).length ≤ 6) : SolM R e (matOf (matL (restL w (eraN w w.length)) e R)) (fun k => pc (XP w.length (errL w c)) e (k + 1)) := by
  intro i hi
  rw [gsum_congr (n := e) (g := fun k => restG w (eraN w w.length) (i + e - 1 - k) * pc (XP w.length (errL w c)) e (k + 1)) (fun k hk => by rw [matL_at _ _ _ _ _ _ hi hR h1, if_pos hk])]
  rw [matL_at _ _ _ _ _ _ hi hR h1, if_neg (by omega), if_pos rfl, rest_comb hw h _ i e he (by omega), rest_eq hw h (i + e) (by omega), ← he]
  refine gsum_congr fun t ht => ?_
  have hz : gsum e (fun k => pc (XP w.length (errL w c)) e (k + 1) * GF.pw (XP w.length (errL w c) t) (e - 1 - k)) = GF.pw (XP w.length (errL w c) t) e := by
    have := pc_ev (XP w.length (errL w c)) (XP w.length (errL w c) t) e
    rw [(prodX_zero _ _ e).2 ⟨t, ht, rfl⟩, gsum_shift, pc_zero, GF.one_mul, Nat.sub_zero] at this
    rw [GF.eq_of_add this]
    exact gsum_congr fun k hk => by rw [show e - 1 - k = e - (k + 1) from by omega]
  rw [hz, GF.pw_add]
  ac_rfl
theorem sum_eq (n : Nat) (hn : n ≤ 100) (L : List Int) (Z : Nat → GF) (e i : Nat) (he : e ≤ 10) (hi : i < n) (hL : ∀ k, k < e → L.getD k 0 = ofG (pc Z e (k + 1))) : ∀ q, q ≤ e → sumI n L i q = ofG (1 + gsum q (fun k => pc Z e (k + 1) * GF.pw (GF.inv (GF.ex (n - 1 - i))) (k + 1))) := by
  intro q
  induction q with
  | zero => intro _; simp only [sumI, gsum]; rfl
  | succ q ih =>
    intro hq
    simp only [sumI, gsum]
    rw [ih (by omega), hL q (by omega), atI_neg hn hi q (by omega) _ (inv_ex _), mulI_of, xorI_of, GF.add_assoc]
theorem sum_zero (n : Nat) (hn : n ≤ 100) (L : List Int) (Z : Nat → GF) (e i : Nat) (he : e ≤ 10) (hi : i < n) (hL : ∀ k, k < e → L.getD k 0 = ofG (pc Z e (k + 1))) : sumI n L i e = 0 ↔ ∃ t, t < e ∧ GF.ex (n - 1 - i) = Z t := by
  rw [sum_eq n hn L Z e i he hi hL e (Nat.le_refl _), ofG_eq_zero, ← prodX_zero, ← pc_ev]
  have hxy := inv_ex (n - 1 - i)
  have e1 : 1 + gsum e (fun k => pc Z e (k + 1) * GF.pw (GF.inv (GF.ex (n - 1 - i))) (k + 1)) = gsum (e + 1) (fun k => pc Z e k * GF.pw (GF.ex (n - 1 - i)) (e - k)) * GF.pw (GF.inv (GF.ex (n - 1 - i))) e := by
    rw [← gsum_mul_r]
    have : ∀ k, k < e + 1 → pc Z e k * GF.pw (GF.ex (n - 1 - i)) (e - k) * GF.pw (GF.inv (GF.ex (n - 1 - i))) e = pc Z e k * GF.pw (GF.inv (GF.ex (n - 1 - i))) k := by
      intro k hk
      have h2 : GF.pw (GF.inv (GF.ex (n - 1 - i))) e = GF.pw (GF.inv (GF.ex (n - 1 - i))) (e - k) * GF.pw (GF.inv (GF.ex (n - 1 - i))) k := by rw [← GF.pw_add]; congr 1; omega
      have h3 : GF.pw (GF.ex (n - 1 - i)) (e - k) * GF.pw (GF.inv (GF.ex (n - 1 - i))) (e - k) = 1 := by rw [← GF.mul_pw, GF.mul_comm, hxy, GF.pw_one]
      rw [h2]
      have : pc Z e k * GF.pw (GF.ex (n - 1 - i)) (e - k) * (GF.pw (GF.inv (GF.ex (n - 1 - i))) (e - k) * GF.pw (GF.inv (GF.ex (n - 1 - i))) k) = pc Z e k * (GF.pw (GF.ex (n - 1 - i)) (e - k) * GF.pw (GF.inv (GF.ex (n - 1 - i))) (e - k)) * GF.pw (GF.inv (GF.ex (n - 1 - i))) k := by ac_rfl
      rw [this, h3, GF.mul_one]
    rw [gsum_congr this, gsum_shift, pc_zero]
    congr 1
    exact (GF.mul_one _).symm
  rw [e1]
  refine ⟨fun q => (GF.mul_eq_zero _ _ q).elim id fun q => absurd q (GF.pw_ne_zero (fun q2 => ?_) _), fun q => by rw [q, GF.zero_mul]⟩
  rw [q2, GF.zero_mul] at hxy
  exact GF.one_ne_zero hxy.symm
theorem posN_congr {P Q : Nat → Bool} {m : Nat} (h : ∀ i, i < m → P i = Q i) : posN P m = posN Q m := by
  induction m with
  | zero => rfl
  | succ m ih => simp only [posN]; rw [ih (fun i hi => h i (by omega)), h m (by omega)]
theorem loc_right (hw : isWord w (-1) = true) (h : Near w c) : locR w (eraN w w.length) (errN w c w.length) = (errL w c, true) := by
  obtain ⟨w1, w2, w3⟩ := word_parts hw
  have hn := h.near
  obtain ⟨e, he⟩ : ∃ e, e = (errL w c).length := ⟨_, rfl⟩
  have he2 : errN w c w.length = e := by rw [he, errL_len]
  rw [he2] at hn ⊢
  unfold locR
  by_cases h0 : e = 0
  · rw [if_pos h0, List.eq_nil_of_length_eq_zero (show (errL w c).length = 0 from by omega)]
  · rw [if_neg h0]
    obtain ⟨R, hR⟩ : ∃ R, R = 6 - (eraN w w.length).length - e := ⟨_, rfl⟩
    rw [← hR]
    obtain ⟨s1, s2⟩ := solR_found (matL_el w (eraN w w.length) e R (by omega) (by omega)) (loc_indep hw h e R he (by omega) (by omega) (by omega)) (loc_sol hw h e R he (by omega) (by omega))
    have hlen := solR_len s1
    unfold locEnd
    rw [if_pos s1]
    obtain ⟨L, hL⟩ : ∃ L, L = (solR R e (matOf (matL (restL w (eraN w w.length)) e R))).1 := ⟨_, rfl⟩
    rw [← hL] at s2 hlen ⊢
    have hP : posN (locP w L) w.length = errL w c := by
      refine posN_congr fun i hi => ?_
      rw [Bool.eq_iff_iff, errP_iff]
      unfold locP
      simp only [Bool.and_eq_true, decide_eq_true_eq]
      rw [hlen, sum_zero w.length (by omega) L (XP w.length (errL w c)) e i (by omega) hi s2]
      have hD := errs_D h
      constructor
      · rintro ⟨a, t, ht, hx⟩
        have h2 := hD.lt (l := w) (k := t) (by omega)
        have := GF.ex_inj (by omega) (by omega) hx
        have h3 : PS (errL w c) t = i := by omega
        have h4 := mem_PS hD.1 (k := t) (by omega)
        rw [h3] at h4
        exact errP_iff.1 ((errL_mem w c i).1 h4).2
      · intro hE
        obtain ⟨t, ht, hx⟩ := PS_mem ((errL_mem w c i).2 ⟨hi, errP_iff.2 hE⟩)
        exact ⟨by omega, t, by omega, by unfold XP; rw [hx]⟩
    rw [hP, ← he]
    simp
end
end Go.Proofs.Ytpkhgapifnjbeaa.G
end
section
namespace Go.Proofs.Ytpkhgapifnjbeaa.D
open Go.RowKit Go.Proofs.Ytpkhgapifnjbeaa.G Go.Proofs.Ytpkhgapifnjbeaa.Rs Go.Proofs.YtpkhgapifnjbeaaW.PrintWords Go.Proofs.YtpkhgapifnjbeaaW.PrintLast Go.Proofs.YtpkhgapifnjbeaaW.PrintMore
attribute [local go_sem] max2_int min2_int max_two min_two max_three min_three max_four min_four
set_option linter.unusedVariables false
set_option linter.unusedSimpArgs false
def errW : Option Int → Value
  | none => .nilIface
  | some c => .iface 0 (.int .i64 c)
theorem errW_none : errW none = .nilIface := rfl
theorem errW_some (c : Int) : errW (some c) = .iface 0 (.int .i64 c) := rfl
theorem info3 : (Try.prog.info? 3).map (fun i => (i.zero, i.size, i.bytes)) = some (some (.int .i64 0), 1, 8) := by kernel_rfl
def rd_L1 (xs : List (List Int)) (i : Int) : (List Int) := xs.getD i.toNat ([] : List Int)
theorem at_L1 {w : World} {A : Option Addr} {n : Nat} {xs : List (List Int)} (h : Kd.C (Kd.slice 3 (Kd.int .i64)) w A n xs) (i : Int) (h0 : 0 ≤ i) (h1 : i < n) : ∃ ad A0 c0, A = some ad ∧ w.cell? (ad.add i.toNat) = some (.slice A0 (rd_L1 xs i).length c0) ∧ (rd_L1 xs i).length ≤ c0 ∧ (Kd.int .i64).C w A0 (rd_L1 xs i).length (rd_L1 xs i) := by
  obtain ⟨ad, c, e, _, hK, hc0⟩ := Kd.C_get h ([] : List Int) i h0 h1
  have hc : ∀ j u, c[j]? = some u → w.cell? (ad.add (i.toNat * 1 + j)) = some u := hc0
  obtain ⟨A0, c0, rfl, l0, g0⟩ := hK
  exact ⟨ad, A0, c0, e, by have hq := hc 0 _ rfl; rwa [Nat.mul_one, Nat.add_zero] at hq, l0, g0⟩
def rd_L3 (xs : List (List Int)) (i : Int) : (List Int) := xs.getD i.toNat ([] : List Int)
theorem at_L3 {w : World} {A : Option Addr} {n : Nat} {xs : List (List Int)} (h : Kd.C (Kd.slice 58 (Kd.int .i64)) w A n xs) (i : Int) (h0 : 0 ≤ i) (h1 : i < n) : ∃ ad A0 c0, A = some ad ∧ w.cell? (ad.add i.toNat) = some (.slice A0 (rd_L3 xs i).length c0) ∧ (rd_L3 xs i).length ≤ c0 ∧ (Kd.int .i64).C w A0 (rd_L3 xs i).length (rd_L3 xs i) := by
  obtain ⟨ad, c, e, _, hK, hc0⟩ := Kd.C_get h ([] : List Int) i h0 h1
  have hc : ∀ j u, c[j]? = some u → w.cell? (ad.add (i.toNat * 1 + j)) = some u := hc0
  obtain ⟨A0, c0, rfl, l0, g0⟩ := hK
  exact ⟨ad, A0, c0, e, by have hq := hc 0 _ rfl; rwa [Nat.mul_one, Nat.add_zero] at hq, l0, g0⟩
def rd_L4 (xs : List (List Int)) (i : Int) : (List Int) := xs.getD i.toNat ([] : List Int)
theorem at_L4 {w : World} {A : Option Addr} {n : Nat} {xs : List (List Int)} (h : Kd.C (Kd.slice 57 (Kd.int .i64)) w A n xs) (i : Int) (h0 : 0 ≤ i) (h1 : i < n) : ∃ ad A0 c0, A = some ad ∧ w.cell? (ad.add i.toNat) = some (.slice A0 (rd_L4 xs i).length c0) ∧ (rd_L4 xs i).length ≤ c0 ∧ (Kd.int .i64).C w A0 (rd_L4 xs i).length (rd_L4 xs i) := by
  obtain ⟨ad, c, e, _, hK, hc0⟩ := Kd.C_get h ([] : List Int) i h0 h1
  have hc : ∀ j u, c[j]? = some u → w.cell? (ad.add (i.toNat * 1 + j)) = some u := hc0
  obtain ⟨A0, c0, rfl, l0, g0⟩ := hK
  exact ⟨ad, A0, c0, e, by have hq := hc 0 _ rfl; rwa [Nat.mul_one, Nat.add_zero] at hq, l0, g0⟩
def rd_L5 (xs : List (List (List Int))) (i : Int) : (List (List Int)) := xs.getD i.toNat ([] : List (List Int))
theorem at_L5 {w : World} {A : Option Addr} {n : Nat} {xs : List (List (List Int))} (h : Kd.C (Kd.slice 69 (Kd.slice 57 (Kd.int .i64))) w A n xs) (i : Int) (h0 : 0 ≤ i) (h1 : i < n) : ∃ ad A0 c0, A = some ad ∧ w.cell? (ad.add i.toNat) = some (.slice A0 (rd_L5 xs i).length c0) ∧ (rd_L5 xs i).length ≤ c0 ∧ (Kd.slice 57 (Kd.int .i64)).C w A0 (rd_L5 xs i).length (rd_L5 xs i) := by
  obtain ⟨ad, c, e, _, hK, hc0⟩ := Kd.C_get h ([] : List (List Int)) i h0 h1
  have hc : ∀ j u, c[j]? = some u → w.cell? (ad.add (i.toNat * 1 + j)) = some u := hc0
  obtain ⟨A0, c0, rfl, l0, g0⟩ := hK
  exact ⟨ad, A0, c0, e, by have hq := hc 0 _ rfl; rwa [Nat.mul_one, Nat.add_zero] at hq, l0, g0⟩
end Go.Proofs.Ytpkhgapifnjbeaa.D
end
