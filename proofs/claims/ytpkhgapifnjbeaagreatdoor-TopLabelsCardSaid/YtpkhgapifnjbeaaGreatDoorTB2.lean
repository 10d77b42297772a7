/- Put together by pack2.py. -/
import Derived.Test.YtpkhgapifnjbeaaGreatDoorProg
import Derived.Below
import Derived.Deep.Draws
import Derived.Deep.AppendLies
import Derived.Maps.AppendAt
import Derived.OwnWalk
import Derived.Laws.BytesArg
import Derived.Laws.MakeOwn
import Derived.Laws.OwnMore
import Derived.Deep.OwnRows
import Derived.Tactics
import Derived.Lib.ConvBytes
import Derived.Laws.Slices
import Derived.WalkKit
import Derived.KernelRfl
import Derived.RowKit3
import Derived.Deep.LoopGhost
import Derived.Deep.QuietTactic
import Derived.BigQuiet
import Derived.WideLaws
import Derived.Deep.DeepCutAuto
import Derived.Deep.CutBlock
import Derived.Deep.RegionHeld3
import Derived.Laws.Rows
import Derived.Lib.AppendStr
import Derived.ArgAppend
import Derived.Laws.IdiomCopy
import Derived.OrdersHeld
import Derived.Laws.BitsLemmas
import Derived.RowKit
import Derived.Outline
import Derived.LoopTactic
import Derived.Laws.CopyOwn
import Derived.Test.YtpkhgapifnjbeaaGreatDoorTB1
set_option linter.unusedVariables false
set_option linter.unusedSimpArgs false
section
namespace Go.Proofs.YtpkhgapifnjbeaaGreatDoor.L
open RowKit G Zw.PrintWords Zw.PrintLast Zw.PrintMore
attribute [local go_sem] pd_ rd_ yd_ zd_ dd_ ed_ qd_ sd_
mutual
def pa_.l0 : Nat → List Int → List Int → Int → List Int → List Int → Int → Int → Option (List Int × Bool)
 | 0, _, _, _, _, _, _, _ => none
 | k + 1, x0, x1, x2, x8, x30, x31, x32 => if x32 < x31 then (if 0 ≤ x32 then (if x32 < (x30.length : Int) then (if x8.length < 17592186044416 then ((some (x8 ++ [0] : List Int)).bind fun y105 => (pa_.l1 k x0 x1 x2 y105 (rd x30 x32) (wrap64 ((y105.length : Int) - 1)) x30 x31 x32)) else (none)) else (none)) else (none)) else ((nm_.f x0).bind fun t114 => (if 0 ≤ (wrap64 (6 - (x1.length : Int))) then (if (wrap64 (6 - (x1.length : Int)) : Int).toNat ≤ 35184372088832 then ((some (List.replicate (wrap64 (6 - (x1.length : Int)) : Int).toNat 0 : List Int)).bind fun y117 => (pa_.l2 k x0 x1 x2 x8 t114 y117 (y117.length : Int) 0)) else (none)) else (none)))
def pa_.l1 : Nat → List Int → List Int → Int → List Int → Int → Int → List Int → Int → Int → Option (List Int × Bool)
 | 0, _, _, _, _, _, _, _, _, _ => none
 | k + 1, x0, x1, x2, x8, x10, x11, x30, x31, x32 => if x11 > 0 then (if 0 ≤ x11 then (if x11 < (x8.length : Int) then (if 0 ≤ (wrap64 (x11 - 1)) then (if (wrap64 (x11 - 1)) < (x8.length : Int) then ((g_at.f x0 x10 1).bind fun t110 => ((ch_.f (rd x8 (wrap64 (x11 - 1))) t110).bind fun t111 => ((ii_.f (rd x8 x11) t111).bind fun t112 => (pa_.l1 k x0 x1 x2 (x8.set (x11 : Int).toNat t112) x10 (wrap64 (x11 - 1)) x30 x31 x32)))) else (none)) else (none)) else (none)) else (none)) else (pa_.l0 k x0 x1 x2 x8 x30 x31 (wrap64 (x32 + 1)))
def pa_.l2 : Nat → List Int → List Int → Int → List Int → List Int → List Int → Int → Int → Option (List Int × Bool)
 | 0, _, _, _, _, _, _, _, _ => none
 | k + 1, x0, x1, x2, x8, x12, x13, x71, x72 => if x72 < x71 then (pa_.l3 k x0 x1 x2 x8 x12 x13 x72 x71 x72 x8 (x8.length : Int) 0) else (if x2 = 0 then (some (([] : List Int), true)) else (pa_.l4 k x0 x2 x13 ([] : List (List Int)) (wrap64 ((x13.length : Int) - x2)) 0))
def pa_.l3 : Nat → List Int → List Int → Int → List Int → List Int → List Int → Int → Int → Int → List Int → Int → Int → Option (List Int × Bool)
 | 0, _, _, _, _, _, _, _, _, _, _, _, _ => none
 | k + 1, x0, x1, x2, x8, x12, x13, x14, x71, x72, x75, x76, x77 => if x77 < x76 then (if 0 ≤ x77 then (if x77 < (x75.length : Int) then (if 0 ≤ x14 then (if x14 < (x13.length : Int) then (if 0 ≤ (wrap64 ((wrap64 (x14 + (x1.length : Int))) - x77)) then (if (wrap64 ((wrap64 (x14 + (x1.length : Int))) - x77)) < (x12.length : Int) then ((ch_.f (rd x75 x77) (rd x12 (wrap64 ((wrap64 (x14 + (x1.length : Int))) - x77)))).bind fun t123 => ((ii_.f (rd x13 x14) t123).bind fun t124 => (pa_.l3 k x0 x1 x2 x8 x12 (x13.set (x14 : Int).toNat t124) x14 x71 x72 x75 x76 (wrap64 (x77 + 1))))) else (none)) else (none)) else (none)) else (none)) else (none)) else (none)) else (pa_.l2 k x0 x1 x2 x8 x12 x13 x71 (wrap64 (x72 + 1)))
def pa_.l4 : Nat → List Int → Int → List Int → List (List Int) → Int → Int → Option (List Int × Bool)
 | 0, _, _, _, _, _, _ => none
 | k + 1, x0, x2, x13, x17, x107, x108 => if x108 < x107 then (pa_.l5 k x0 x2 x13 x17 x108 ([] : List Int) 1 x107 x108) else ((ui_.f x17).bind fun bt137 => (if bt137.2 = true then (pa_.l6 k x0 x2 bt137.1 ([] : List Int) x0 (x0.length : Int) 0) else (some (([] : List Int), false))))
def pa_.l5 : Nat → List Int → Int → List Int → List (List Int) → Int → List Int → Int → Int → Int → Option (List Int × Bool)
 | 0, _, _, _, _, _, _, _, _, _ => none
 | k + 1, x0, x2, x13, x17, x18, x19, x20, x107, x108 => if x20 ≤ x2 then (if 0 ≤ (wrap64 ((wrap64 (x18 + x2)) - x20)) then (if (wrap64 ((wrap64 (x18 + x2)) - x20)) < (x13.length : Int) then (if x19.length < 17592186044416 then (pa_.l5 k x0 x2 x13 x17 x18 (x19 ++ [rd x13 (wrap64 ((wrap64 (x18 + x2)) - x20))]) (wrap64 (x20 + 1)) x107 x108) else (none)) else (none)) else (none)) else (if 0 ≤ (wrap64 (x18 + x2)) then (if (wrap64 (x18 + x2)) < (x13.length : Int) then (if x19.length < 17592186044416 then (if x17.length < 5864062014805 then (pa_.l4 k x0 x2 x13 (x17 ++ [(x19 ++ [rd x13 (wrap64 (x18 + x2))])]) x107 (wrap64 (x108 + 1))) else (none)) else (none)) else (none)) else (none))
def pa_.l6 : Nat → List Int → Int → List Int → List Int → List Int → Int → Int → Option (List Int × Bool)
 | 0, _, _, _, _, _, _, _ => none
 | k + 1, x0, x2, x21, x23, x147, x148, x149 => if x149 < x148 then (if 0 ≤ x149 then (if x149 < (x147.length : Int) then (pa_.l7 k x0 x2 x21 x23 x149 (rd x147 x149) 1 x147 x148 x149 x21 (x21.length : Int) 0) else (none)) else (none)) else (some (x23, ((x23.length : Int) == x2)))
def pa_.l7 : Nat → List Int → Int → List Int → List Int → Int → Int → Int → List Int → Int → Int → List Int → Int → Int → Option (List Int × Bool)
 | 0, _, _, _, _, _, _, _, _, _, _, _, _, _ => none
 | k + 1, x0, x2, x21, x23, x24, x25, x26, x147, x148, x149, x154, x155, x156 => if x156 < x155 then (if 0 ≤ x156 then (if x156 < (x154.length : Int) then ((g_at.f x0 x24 (wrap64 ((wrap64 (-x156)) - 1))).bind fun t143 => ((ch_.f (rd x154 x156) t143).bind fun t144 => ((ii_.f x26 t144).bind fun t145 => (pa_.l7 k x0 x2 x21 x23 x24 x25 t145 x147 x148 x149 x154 x155 (wrap64 (x156 + 1)))))) else (none)) else (none)) else (if x25 = (-1) then (pa_.l6 k x0 x2 x21 x23 x147 x148 (wrap64 (x149 + 1))) else (if x26 = 0 then (if x23.length < 17592186044416 then (pa_.l6 k x0 x2 x21 (x23 ++ [x24]) x147 x148 (wrap64 (x149 + 1))) else (none)) else (pa_.l6 k x0 x2 x21 x23 x147 x148 (wrap64 (x149 + 1)))))
end
def pa_.f (k : Nat) (l0 : List Int) (l1 : List Int) (a2 : Int) : Option (List Int × Bool) := pa_.l0 k l0 l1 a2 (([1] : List Int)) l1 (l1.length : Int) 0
theorem pa_.nd_ : ∀ k, (∀ y0 y1 y2 y3 y4 y5 y6, LeO (pa_.l0 k y0 y1 y2 y3 y4 y5 y6) (pa_.l0 (k + 1) y0 y1 y2 y3 y4 y5 y6)) ∧ (∀ y0 y1 y2 y3 y4 y5 y6 y7 y8, LeO (pa_.l1 k y0 y1 y2 y3 y4 y5 y6 y7 y8) (pa_.l1 (k + 1) y0 y1 y2 y3 y4 y5 y6 y7 y8)) ∧ (∀ y0 y1 y2 y3 y4 y5 y6 y7, LeO (pa_.l2 k y0 y1 y2 y3 y4 y5 y6 y7) (pa_.l2 (k + 1) y0 y1 y2 y3 y4 y5 y6 y7)) ∧ (∀ y0 y1 y2 y3 y4 y5 y6 y7 y8 y9 y10 y11, LeO (pa_.l3 k y0 y1 y2 y3 y4 y5 y6 y7 y8 y9 y10 y11) (pa_.l3 (k + 1) y0 y1 y2 y3 y4 y5 y6 y7 y8 y9 y10 y11)) ∧ (∀ y0 y1 y2 y3 y4 y5, LeO (pa_.l4 k y0 y1 y2 y3 y4 y5) (pa_.l4 (k + 1) y0 y1 y2 y3 y4 y5)) ∧ (∀ y0 y1 y2 y3 y4 y5 y6 y7 y8, LeO (pa_.l5 k y0 y1 y2 y3 y4 y5 y6 y7 y8) (pa_.l5 (k + 1) y0 y1 y2 y3 y4 y5 y6 y7 y8)) ∧ (∀ y0 y1 y2 y3 y4 y5 y6, LeO (pa_.l6 k y0 y1 y2 y3 y4 y5 y6) (pa_.l6 (k + 1) y0 y1 y2 y3 y4 y5 y6)) ∧ (∀ y0 y1 y2 y3 y4 y5 y6 y7 y8 y9 y10 y11 y12, LeO (pa_.l7 k y0 y1 y2 y3 y4 y5 y6 y7 y8 y9 y10 y11 y12) (pa_.l7 (k + 1) y0 y1 y2 y3 y4 y5 y6 y7 y8 y9 y10 y11 y12))
 | 0 => ⟨fun _ _ _ _ _ _ _ r h => by simp [pa_.l0] at h, fun _ _ _ _ _ _ _ _ _ r h => by simp [pa_.l1] at h, fun _ _ _ _ _ _ _ _ r h => by simp [pa_.l2] at h, fun _ _ _ _ _ _ _ _ _ _ _ _ r h => by simp [pa_.l3] at h, fun _ _ _ _ _ _ r h => by simp [pa_.l4] at h, fun _ _ _ _ _ _ _ _ _ r h => by simp [pa_.l5] at h, fun _ _ _ _ _ _ _ r h => by simp [pa_.l6] at h, fun _ _ _ _ _ _ _ _ _ _ _ _ _ r h => by simp [pa_.l7] at h⟩
 | k + 1 => by
  obtain ⟨ih0, ih1, ih2, ih3, ih4, ih5, ih6, ih7⟩ := pa_.nd_ k
  refine ⟨?_, ?_, ?_, ?_, ?_, ?_, ?_, ?_⟩
  ·intro y0 y1 y2 y3 y4 y5 y6
   unfold pa_.l0
   exact Qr
  ·intro y0 y1 y2 y3 y4 y5 y6 y7 y8
   unfold pa_.l1
   exact Qr
  ·intro y0 y1 y2 y3 y4 y5 y6 y7
   unfold pa_.l2
   exact Qr
  ·intro y0 y1 y2 y3 y4 y5 y6 y7 y8 y9 y10 y11
   unfold pa_.l3
   exact Qr
  ·intro y0 y1 y2 y3 y4 y5
   unfold pa_.l4
   exact Qr
  ·intro y0 y1 y2 y3 y4 y5 y6 y7 y8
   unfold pa_.l5
   exact Qr
  ·intro y0 y1 y2 y3 y4 y5 y6
   unfold pa_.l6
   exact Qr
  intro y0 y1 y2 y3 y4 y5 y6 y7 y8 y9 y10 y11 y12
  unfold pa_.l7
  exact Qr
theorem pa_.mono : ∀ a0 a1 a2 k, LeO (pa_.f k a0 a1 a2) (pa_.f (k + 1) a0 a1 a2) := by
 intro a0 a1 a2 k
 obtain ⟨ih0, ih1, ih2, ih3, ih4, ih5, ih6, ih7⟩ := pa_.nd_ k
 unfold pa_.f
 exact Qr
def pa_.T9 : Bool × List (List Nat × List Nat) := (true, [([], []), ([], []), ([], []), ([], []), ([2, 3], [2, 3]), ([4], [4]), ([], []), ([], []), ([7], [7]), ([6, 8], [6, 8]), ([9], [9]), ([], []), ([], []), ([11, 12], [11, 12]), ([10, 13, 13], [10, 13]), ([5, 14, 14], [5, 14]), ([0, 1, 0, 1, 2, 3, 4, 5, 6, 7, 8, 9, 10, 11, 12, 13, 14, 15], [0, 1]), ([16, 15, 15, 0, 1, 2, 3, 4, 5, 6, 7, 8, 9, 10, 11, 12, 13, 14, 15], [15, 16])])
def pa_.B9 : List Nat := [0, 0, 0, 0, 12, 28, 0, 0, 128, 448, 960, 0, 0, 6144, 16320, 32764, 65535, 131071]
theorem pa_.tab9 : rtab .any (opsOf Tryz.f81 9) = pa_.T9 := by kernel_rfl
theorem pa_.bits9 : ni_ pa_.T9.2 pa_.B9 = true := by kernel_rfl
def pa_.T19 : Bool × List (List Nat × List Nat) := (true, [([], []), ([], []), ([], []), ([], []), ([2, 3], [2, 3]), ([4], [4]), ([], []), ([], []), ([], []), ([8], [8]), ([7, 9], [7, 9]), ([], []), ([10, 11], [10, 11]), ([12], [12]), ([13], [13]), ([6, 14], [6, 14]), ([5, 15, 15], [5, 15]), ([0, 1, 0, 1, 2, 3, 4, 5, 6, 7, 8, 9, 10, 11, 12, 13, 14, 15, 16], [0, 1]), ([17, 16, 16, 0, 1, 2, 3, 4, 5, 6, 7, 8, 9, 10, 11, 12, 13, 14, 15, 16], [16, 17])])
def pa_.B19 : List Nat := [0, 0, 0, 0, 12, 28, 0, 0, 0, 256, 896, 0, 3968, 8064, 16256, 32704, 65532, 131071, 262143]
theorem pa_.tab19 : rtab .any (opsOf Tryz.f81 19) = pa_.T19 := by kernel_rfl
theorem pa_.bits19 : ni_ pa_.T19.2 pa_.B19 = true := by kernel_rfl
set_option maxHeartbeats 8000000 in
set_option maxRecDepth 100000 in
theorem pa_.calls (k : Nat) (A0 : Option Addr) (c0 : Nat) (l0 : List Int) (A1 : Option Addr) (c1 : Nat) (l1 : List Int) (a2 : Int) (r1 : List Int) (r2 : Bool) (w : World) (hr0 : Kd.C (Kd.int .i64) w A0 l0.length l0) (hc0 : l0.length ≤ c0) (hr1 : Kd.C (Kd.int .i64) w A1 l1.length l1) (hc1 : l1.length ≤ c1) (h : pa_.f k l0 l1 a2 = some (r1, r2)) :
  Calls Tryz.prog 81 #[.slice A0 l0.length c0, .slice A1 l1.length c1, .int .i64 a2] w fun e w' => ∃ v0_ : Value, e = .returned (.tuple #[v0_, .bool r2]) ∧ Kd.R (Kd.int .i64) 3 w' w.heap.size (fun _ => True) v0_ r1 ∧ Below w.heap.size w w' := by
 have HR0 := ba_.mk hr0
 have HC0 := ba_.mk hc0
 clear hr0 hc0
 have HR1 := ba_.mk hr1
 have HC1 := ba_.mk hc1
 clear hr1 hc1
 have HB := ba_.mk (Below.refl w.heap.size w)
 have H : (pa_.l0 k l0 l1 a2 (([1] : List Int)) l1 (l1.length : Int) 0) = some (r1, r2) := h
 clear h
 obtain ⟨y101, hy101⟩ : ∃ y_ : List Int, y_ = (([1] : List Int)) := ⟨_, rfl⟩
 replace H : (pa_.l0 k l0 l1 a2 y101 l1 (l1.length : Int) 0) = some (r1, r2) := by first | (rw [hy101]; with_reducible exact H) | (have H2_ := (Option.bind_some _ _).symm.trans H; rw [hy101]; with_reducible exact H2_) | (have H2_ := (Option.bind_some _ _).symm.trans H; with_reducible exact H2_) | with_reducible exact H | (rw [hy101]; exact H) | exact H
 have Ny101 := ba_.mk hy101
 clear hy101
 have H' := ba_.mk H
 clear H
 go_enter Tryz.func81, Tryz.ntmps81
 go_wp2_with (first | ((with_reducible refine ld_ (N := 29) rfl ?_); refine Kd.aq_ (Kd.int .i64) _ 87 ?hg (N := 29) ?hd (xs := ([1] : List Int)) (inner := [.int .i64 1]) (ok := fun _ => True) (okp := fun _ => True) ?hr ?hp (fun _ hk => hk) trivial (Below.refl _ _) (Nat.le_refl _) Qj ?_; (case hd => rfl); (case hg => rfl); (case hr => exact Qt); (case hp => exact (Reps.one (show Kd.M (Kd.int .i64) _ _ _ 1 [.int .i64 1] from rfl) (Reps.none _ _))); intro v102 w4 ho5 hb hg_ hnew_; clear hg_ hnew_; (first | rw [← Ny101.out] at ho5 | (simp only [Int.reduceToNat] at ho5; rw [← Ny101.out] at ho5)); have n0_ := ba_.mk (Kd.xd_ ho5 (pb_ Qh)); have n1_ := ba_.mk (hb_ Qh hb); clear HB; have HO103 := n0_; have HB := n1_; clear n0_ n1_; clear hb ho5))
 go_loopg [8, 32] k (fun kq v8 v32 w' => ∃ (x8_1 : List Int) (x32_1 : Int), v32 = .int .i64 x32_1 ∧ ba_ (pa_.l0 kq l0 l1 a2 x8_1 l1 (l1.length : Int) x32_1 = some (r1, r2)) ∧ ba_ (kq ≤ k) ∧ ba_ (Kd.R (Kd.int .i64) 87 w' w.heap.size (fun _ => True) v8 x8_1) ∧ ba_ (Below w.heap.size w w'))
 case atStart => exact ⟨(y101), (0), Ql, H', ⟨Nat.le_refl _⟩, ⟨by (with_reducible repeat (first | apply Kd.bb_ | apply Kd.cb_ | apply Kd.sb_)); exact HO103.out⟩, ⟨Qh⟩⟩
 case round =>
  clear H'
  try clear c1
  try clear p2
  obtain ⟨x8_1, x32_1, rfl, HA, HK1, HO_8, HB⟩ := hrel
  cases gk with
  | zero => exact absurd HA.out (by simp [pa_.l0])
  | succ k1 =>
   have H := HA.out
   clear HA
   simp only [pa_.l0] at H
   by_cases c6 : x32_1 < (l1.length : Int)
   ·rw [if_pos c6] at H
    have c6b0 := decide_eq_true c6
    clear c6
    obtain ⟨c7, H⟩ := Qq H
    have c7b0 := decide_eq_true c7
    clear c7
    obtain ⟨c8, H⟩ := Qq H
    have c8b0 := decide_eq_true c8
    clear c8
    obtain ⟨c9, H⟩ := Qq H
    have LMc9 := ba_.mk c9
    clear c9
    obtain ⟨y105, hy105⟩ : ∃ y_ : List Int, y_ = (x8_1 ++ [0]) := ⟨_, rfl⟩
    replace H : (pa_.l1 k1 l0 l1 a2 y105 (rd l1 x32_1) (wrap64 ((y105.length : Int) - 1)) l1 (l1.length : Int) x32_1) = some (r1, r2) := by first | (rw [hy105]; with_reducible exact H) | (have H2_ := (Option.bind_some _ _).symm.trans H; rw [hy105]; with_reducible exact H2_) | (have H2_ := (Option.bind_some _ _).symm.trans H; with_reducible exact H2_) | with_reducible exact H | (rw [hy105]; exact H) | exact H
    have Ny105 := ba_.mk hy105
    clear hy105
    have H' := ba_.mk H
    clear H
    have p104 : 0 ≤ (x32_1 : Int) := of_decide_eq_true Qi
    have q104 : x32_1 < (l1.length : Int) := of_decide_eq_true Qi
    obtain ⟨ad104, e104, hx104_0⟩ := Kd.ee_ HR1.out x32_1 p104 q104
    cases e104
    replace hx104_0 := (HB.out.cell (World.block_lt_of_cell? w _ hx104_0)).trans hx104_0
    replace p104 := eq_true p104
    replace q104 := eq_true q104
    go_wp2_with (first | ((with_reducible refine md_ (b := .append) (xs := #[.tmp 36, .tmp 37]) rfl ?_); at_builtin; refine Kd.yf_ (Kd.int .i64) (w0 := w) w.heap.size rfl (.tmp 36) (.tmp 37) 124 87 (.int .i64 0) 8 rfl Tryz.underlying124 zo_ rfl Qc Qa u8 x8_1 0 [.int .i64 0] (fun _ => True) (fun _ => False) rfl rfl ?aP (fun _ hk => hk.elim) ?aF ?aO ?aB ?aS ?aL ?_; (case aP => exact rfl); (case aB => exact Xo); (case aF => exact Xn); (case aO => exact (Qk HO_8.out)); (case aS => exact Xp); (case aL => have := LMc9.out; omega); intro v106 w10 ho hb hg hat; rw [← Ny105.out] at ho; have n0_ := ba_.mk (hb); have n1_ := ba_.mk (ho); clear HB; clear HO_8; have HB := n0_; have HO107 := n1_; clear n0_ n1_; clear ho hb hg hat; obtain ⟨Ao11, co11, eo11⟩ := Kd.td_ HO107.out; subst eo11))
    go_loopg [11] k1 (fun kq v11 w' => ∃ (x8_2 : List Int) (x11_2 : Int), v11 = .int .i64 x11_2 ∧ ba_ (pa_.l1 kq l0 l1 a2 x8_2 (rd l1 x32_1) x11_2 l1 (l1.length : Int) x32_1 = some (r1, r2)) ∧ ba_ (kq ≤ k1) ∧ ba_ (Kd.R (Kd.int .i64) 87 w' w.heap.size (fun _ => True) (.slice Ao11 y105.length co11) x8_2) ∧ ba_ (Below w.heap.size w w'))
    case atStart => exact ⟨(y105), (wrap64 ((y105.length : Int) - 1)), Ql, H', ⟨Nat.le_refl _⟩, ⟨by (with_reducible repeat (first | apply Kd.bb_ | apply Kd.cb_ | apply Kd.sb_)); exact HO107.out⟩, ⟨Qh⟩⟩
    case round =>
     clear H'
     try clear c1
     try clear p1
     try clear q1
     try clear hx1
     try clear p2
     try clear c6
     try clear c6b0
     try clear p6
     try clear c7
     try clear c7b0
     try clear c8
     try clear c8b0
     try clear c9
     try clear p10
     try clear q10
     try clear hx10
     try clear hx104_0
     try clear p104
     try clear p2
     try clear q104
     obtain ⟨x8_2, x11_2, rfl, HA, HK2, HO_8, HB⟩ := hrel
     have hl8_2 := (Kd.wb_ HO_8.out).1
     rw [hl8_2] at HO_8
     (try simp only [hl8_2])
     cases gk with
     | zero => exact absurd HA.out (by simp [pa_.l1])
     | succ k2 =>
      have H := HA.out
      clear HA
      simp only [pa_.l1] at H
      by_cases c12 : x11_2 > 0
      rotate_left
      ·rw [if_neg c12] at H
       have c12b0 : decide (0 < x11_2) = false := decide_eq_false c12
       clear c12
       have H' := ba_.mk H
       clear H
       go_wp2
       (try simp only [← hl8_2])
       go_roundg k2
       case measure => exact Q7
       case rel => exact ⟨(x8_2), (wrap64 (x32_1 + 1)), Ql, H', ⟨Q8⟩, ⟨by (try simp only [hl8_2]); (with_reducible repeat (first | apply Kd.bb_ | apply Kd.cb_ | apply Kd.sb_)); exact HO_8.out⟩, ⟨Qh⟩⟩
      rw [if_pos c12] at H
      have c12b0 : decide (0 < x11_2) = true := decide_eq_true c12
      clear c12
      obtain ⟨c13, H⟩ := Qq H
      have c13b0 := decide_eq_true c13
      clear c13
      obtain ⟨c14, H⟩ := Qq H
      have c14b0 := decide_eq_true c14
      clear c14
      obtain ⟨ji15, hji15⟩ : ∃ j_ : Int, (wrap64 (x11_2 - 1)) = j_ := ⟨_, rfl⟩
      replace H : (if 0 ≤ (ji15) then (if (ji15) < (x8_2.length : Int) then ((g_at.f l0 (rd l1 x32_1) 1).bind fun t110 => ((ch_.f (rd x8_2 (ji15)) t110).bind fun t111 => ((ii_.f (rd x8_2 x11_2) t111).bind fun t112 => (pa_.l1 k2 l0 l1 a2 (x8_2.set (x11_2 : Int).toNat t112) (rd l1 x32_1) ji15 l1 (l1.length : Int) x32_1)))) else (none)) else (none)) = some (r1, r2) := by first | (rw [hji15] at H; exact H) | (simp only [hji15] at H ⊢; exact H)
      have hji15w : (IntKind.i64.wrap (x11_2 - 1)) = ji15 := (yb_ _).trans hji15
      obtain ⟨c16, H⟩ := Qq H
      have c16b0 := decide_eq_true c16
      clear c16
      obtain ⟨c17, H⟩ := Qq H
      have c17b0 := decide_eq_true c17
      clear c17
      obtain ⟨t110, A18, H⟩ := Qo H
      try dsimp only at H
      obtain ⟨t111, A19, H⟩ := Qo H
      try dsimp only at H
      obtain ⟨t112, A20, H⟩ := Qo H
      try dsimp only at H
      obtain ⟨y113, hy113⟩ : ∃ y_ : List Int, y_ = (x8_2.set (x11_2 : Int).toNat t112) := ⟨_, rfl⟩
      replace H : (pa_.l1 k2 l0 l1 a2 y113 (rd l1 x32_1) ji15 l1 (l1.length : Int) x32_1) = some (r1, r2) := by first | (rw [hy113]; with_reducible exact H) | (have H2_ := (Option.bind_some _ _).symm.trans H; rw [hy113]; with_reducible exact H2_) | (have H2_ := (Option.bind_some _ _).symm.trans H; with_reducible exact H2_) | with_reducible exact H | (rw [hy113]; exact H) | exact H
      have Ny113 := ba_.mk hy113
      clear hy113
      have H' := ba_.mk H
      clear H
      try go_wp2
      have n0_ := ba_.mk (Kd.sb_ HO_8.out)
      have n1_ := ba_.mk (ca_ HB.out)
      clear HO_8
      clear HB
      have HO_8 := n0_
      have HB := n1_
      clear n0_ n1_
      have p108 : 0 ≤ (x11_2 : Int) := of_decide_eq_true Qi
      have q108 : x11_2 < (x8_2.length : Int) := of_decide_eq_true Qi
      obtain ⟨ad108, e108, hx108_0⟩ := Kd.ee_ (Kd.wb_ HO_8.out).2.2 x11_2 p108 q108
      cases e108
      replace p108 := eq_true p108
      replace q108 := eq_true q108
      have p109 : 0 ≤ ((ji15) : Int) := of_decide_eq_true Qi
      have q109 : (ji15) < (x8_2.length : Int) := of_decide_eq_true Qi
      obtain ⟨ad109, e109, hx109_0⟩ := Kd.ee_ (Kd.wb_ HO_8.out).2.2 (ji15) p109 q109
      obtain rfl : ad108 = ad109 := (by injection e109)
      replace p109 := eq_true p109
      replace q109 := eq_true q109
      refine ei_ (n := 18) (S := fun w' => w'.cell? (ad108.add (x11_2).toNat) = some (.int .i64 (rd x8_2 x11_2)) ∧ w'.cell? (ad108.add ((ji15)).toNat) = some (.int .i64 (rd x8_2 (ji15)))) (ds := [17]) Qa1 Qb rfl rfl ⟨hx108_0, hx109_0⟩ (fun hHeld => ?_); refine wh_ pa_.tab9 pa_.bits9 (fun HT_ HW_ => ?_)
      generalize wr.drew = w22 at HO_8 HB hx108_0 hx109_0 hHeld ⊢
      refine qc_ (i := 0) (N := some 46) (v := ?_) (a' := ?_) Qa4 rfl rfl Qn Qe (Or.inl ⟨by rfl, ?_⟩) ?_ ?_
      rotate_left
      ·exact Qg
      rotate_left
      ·exact Qd
      refine qc_ (i := 1) (N := some 47) (v := ?_) (a' := ?_) Qbf rfl rfl Qn Qe (Or.inl ⟨by rfl, ?_⟩) ?_ ?_
      rotate_left
      ·exact Qg
      rotate_left
      ·exact Qd
      refine qc_ (i := 2) (N := some 48) (v := ?_) (a' := ?_) #[true, true, true, false, false, false, false, false, false, false, false, false, false, false, false, false, false, false] rfl rfl Qn Qe (Or.inl ⟨by rfl, ?_⟩) ?_ ?_
      rotate_left
      ·exact Qg
      rotate_left
      ·exact Qd
      refine qc_ (i := 3) (N := some 49) (v := ?_) (a' := ?_) #[true, true, true, true, false, false, false, false, false, false, false, false, false, false, false, false, false, false] rfl rfl Qn Qe (Or.inl ⟨by rfl, ?_⟩) ?_ ?_
      rotate_left
      ·exact Qg
      rotate_left
      ·exact Qd
      refine qc_ (i := 4) (N := some 50) (v := ?_) (a' := ?_) #[true, true, true, true, true, false, false, false, false, false, false, false, false, false, false, false, false, false] rfl rfl Qn Qe (Or.inl ⟨by rfl, ?_⟩) ?_ ?_
      rotate_left
      ·exact Qg
      rotate_left
      ·exact Qd
      refine qc_ (i := 6) (N := some 52) (v := ?_) (a' := ?_) #[true, true, true, true, true, false, true, false, false, false, false, false, false, false, false, false, false, false] rfl rfl Qn Qe (Or.inl ⟨by rfl, ?_⟩) ?_ ?_
      rotate_left
      ·exact Qg
      rotate_left
      ·exact Qd
      refine qc_ (i := 7) (N := some 53) (v := ?_) (a' := ?_) #[true, true, true, true, true, false, true, true, false, false, false, false, false, false, false, false, false, false] rfl rfl Qn Qe (Or.inl ⟨by rfl, ?_⟩) ?_ ?_
      rotate_left
      ·exact Qg
      rotate_left
      ·exact Qd
      refine qc_ (i := 8) (N := some 54) (v := ?_) (a' := ?_) #[true, true, true, true, true, false, true, true, true, false, false, false, false, false, false, false, false, false] rfl rfl Qn Qe (Or.inl ⟨by rfl, ?_⟩) ?_ ?_
      rotate_left
      ·exact Qg
      rotate_left
      ·exact Qd
      refine qc_ (i := 9) (N := some 55) (v := ?_) (a' := ?_) #[true, true, true, true, true, false, true, true, true, true, false, false, false, false, false, false, false, false] rfl rfl Qn Qe (Or.inl ⟨by rfl, ?_⟩) ?_ ?_
      rotate_left
      ·exact Qg
      rotate_left
      ·exact Qd
      refine qc_ (i := 11) (N := some 57) (v := ?_) (a' := ?_) #[true, true, true, true, true, false, true, true, true, true, false, true, false, false, false, false, false, false] rfl rfl Qn Qe (Or.inl ⟨by rfl, ?_⟩) ?_ ?_
      rotate_left
      ·exact Qg
      rotate_left
      ·exact Qd
      refine qc_ (i := 12) (N := some 58) (v := ?_) (a' := ?_) #[true, true, true, true, true, false, true, true, true, true, false, true, true, false, false, false, false, false] rfl rfl Qn Qe (Or.inl ⟨by rfl, ?_⟩) ?_ ?_
      rotate_left
      ·exact Qg
      rotate_left
      ·exact Qd
      refine wf_ (i := 5) (N := some 51) (v := ?_) (a' := ?_) #[true, true, true, true, true, true, true, true, true, true, false, true, true, false, false, false, false, false] rfl rfl (ve_ HT_.out HW_.out Qb) Qe (Or.inl ⟨by rfl, ?_⟩) hHeld ?_ ?_
      rotate_left
      ·exact Xm
      rotate_left
      ·exact Qd
      refine wf_ (i := 10) (N := some 56) (v := ?_) (a' := ?_) Qbq rfl rfl (ve_ HT_.out HW_.out Qb) Qe (Or.inl ⟨by rfl, ?_⟩) hHeld ?_ ?_
      rotate_left
      ·exact Xm
      rotate_left
      ·exact Qd
      refine one_ (i := 13) (N := some 59) Qbw rfl rfl Qz Qc (fun K hK => ?_)
      refine zm_ Tryz.func95 Qb rfl #[.slice A0 l0.length c0, .int .i64 (rd l1 x32_1), .int .i64 1] (by rfl) rfl rfl Qm ?_
      with_reducible refine (g_at.calls _ _ l0 (rd l1 x32_1) 1 t110 _ ?side1 ?side2 A18.out).mono ?_
      (case side1 => exact Xc)
      (case side2 => exact HC0.out)
      rintro e w' ⟨rfl, ⟨nd, rfl⟩⟩
      refine ⟨_, rfl, ?_⟩
      refine hK.out _ _ ⟨hHeld.1, hHeld.2⟩ (fun hHeld => ?_)
      clear hK K
      refine ug_ (a' := ?_) ?_ ?_
      rotate_left
      ·show Act.put _ (some 59) _ = _
       simp only [Act.put, List.setIfInBounds_toArray, List.set_cons_zero, List.set_cons_succ, yb_, ac_]
       rfl
      refine one_ (i := 14) (N := some 60) Qbx rfl rfl Qz Qc (fun K hK => ?_)
      refine zm_ Tryz.func116 Qb rfl #[.int .i64 (rd x8_2 (ji15)), .int .i64 t110] (by rfl) rfl rfl (by (try simp only [List.map_toArray, List.map_cons, List.map_nil]); first | done | (simp only [hji15]; rfl) | rfl | (simp only [List.length_drop, List.length_take]; rfl)) ?_
      with_reducible refine (ch_.calls (rd x8_2 (ji15)) t110 t111 _ A19.out).mono ?_
      rintro e w' ⟨rfl, ⟨nd, rfl⟩⟩
      refine ⟨_, rfl, ?_⟩
      refine hK.out _ _ ⟨hHeld.1, hHeld.2⟩ (fun hHeld => ?_)
      clear hK K
      refine ug_ (a' := ?_) ?_ ?_
      rotate_left
      ·show Act.put _ (some 60) _ = _
       simp only [Act.put, List.setIfInBounds_toArray, List.set_cons_zero, List.set_cons_succ, yb_, ac_]
       rfl
      refine one_ (i := 15) (N := some 61) Qby rfl rfl Qz Qc (fun K hK => ?_)
      refine zm_ Tryz.func115 Qb rfl #[.int .i64 (rd x8_2 x11_2), .int .i64 t111] (by rfl) rfl rfl Qm ?_
      with_reducible refine (ii_.calls (rd x8_2 x11_2) t111 t112 _ A20.out).mono ?_
      rintro e w' ⟨rfl, ⟨nd, rfl⟩⟩
      refine ⟨_, rfl, ?_⟩
      have p21 : 0 ≤ (x11_2 : Int) := of_decide_eq_true Qi
      have q21 : (x11_2 : Int) < ((x8_2.length : Int) : Int) := of_decide_eq_true Qi
      obtain ⟨go21, co21, eo21, gb21, gl21, cl21, HG21⟩ := Kd.zi_ HO_8.out Qa
      (first | cases eo21 | (injection eo21 with ea_ en_ ec_; (first | subst ea_ | (injection ea_ with ea_; subst ea_)); subst ec_; clear en_))
      have GB21 := ba_.mk gb21
      have GG21 := ba_.mk HG21
      clear gb21 gl21 HG21
      (first | simp only [add_plain] at hx108_0 | skip)
      (first | simp only [add_plain] at hx109_0 | skip)
      obtain ⟨hx21_0, hf21_0⟩ := Kd.ph_ 0 HO_8.out (x11_2 : Int) p21 q21
      replace p21 := eq_true p21
      replace q21 := eq_true q21
      have HP23 := Kd.wo_ HO_8.out (x11_2 : Int) t112
      rw [← Ny113.out] at HP23
      have HQ23 := ba_.mk HP23
      clear HP23
      refine hK.out _ _ ⟨hHeld.1, hHeld.2⟩ (fun hHeld => ?_)
      clear hK K
      refine ug_ (a' := ?_) ?_ ?_
      rotate_left
      ·show Act.put _ (some 61) _ = _
       simp only [Act.put, List.setIfInBounds_toArray, List.set_cons_zero, List.set_cons_succ, yb_, ac_]
       rfl
      refine qc_ (i := 16) (N := some 62) (v := ?_) (a' := ?_) Qbz rfl rfl Qn Qe (Or.inl ⟨by rfl, ?_⟩) ?_ ?_
      rotate_left
      ·exact Qg
      rotate_left
      ·exact Qd
      refine an_ (i := 17) (N := none) Qb0 rfl rfl Qz Qc (fun K hK => ?_)
      refine em_ (w1 := ?_) (by rfl) rfl ?_ ?_
      rotate_left
      ·go_simp
       rfl
      refine hK.out _ _ ?_
      clear hK K
      refine yk_ Xt ?_
      try go_wp2
      (try simp only [← hl8_2])
      go_roundg k2
      case measure => exact Q7
      case rel => exact ⟨(y113), (ji15), (by first | rfl | (simp; done) | (simp only [← hji15] <;> (first | rfl | simp)) | (simp [*]; done)), H', ⟨Q8⟩, ⟨by (try simp only [hl8_2]); (with_reducible repeat (first | apply Kd.bb_ | apply Kd.cb_ | apply Kd.sb_)); exact HQ23.out⟩, ⟨by repeat (first | (with_reducible first | exact HB.out | apply da_ | apply aa_ | apply ca_ | refine fa_ ?_ GB21.out) | exact HB.out)⟩⟩
   rw [if_neg c6] at H
   have c6b0 := decide_eq_false c6
   clear c6
   obtain ⟨t114, A24, H⟩ := Qo H
   try dsimp only at H
   obtain ⟨ji25, hji25⟩ : ∃ j_ : Int, (wrap64 (6 - (l1.length : Int))) = j_ := ⟨_, rfl⟩
   replace H : (if 0 ≤ (ji25) then (if (ji25 : Int).toNat ≤ 35184372088832 then ((some (List.replicate (ji25 : Int).toNat 0 : List Int)).bind fun y117 => (pa_.l2 k1 l0 l1 a2 x8_1 t114 y117 (y117.length : Int) 0)) else (none)) else (none)) = some (r1, r2) := by first | (rw [hji25] at H; exact H) | (simp only [hji25] at H ⊢; exact H)
   (try rw [hji25] at A24)
   have hji25w : (IntKind.i64.wrap (6 - (l1.length : Int))) = ji25 := (yb_ _).trans hji25
   by_cases c26 : 0 ≤ (ji25)
   rotate_left
   ·rw [if_neg c26] at H
    exact absurd H Qj
   rw [if_pos c26] at H
   have c26b0 := eq_true c26
   have c26b1 := decide_eq_true c26
   clear c26
   obtain ⟨c27, H⟩ := Qq H
   have c27b0 := eq_true c27
   have c27b1 := decide_eq_true c27
   clear c27
   obtain ⟨y117, hy117⟩ : ∃ y_ : List Int, y_ = (List.replicate (ji25 : Int).toNat 0) := ⟨_, rfl⟩
   replace H : (pa_.l2 k1 l0 l1 a2 x8_1 t114 y117 (y117.length : Int) 0) = some (r1, r2) := by first | (rw [hy117]; with_reducible exact H) | (have H2_ := (Option.bind_some _ _).symm.trans H; rw [hy117]; with_reducible exact H2_) | (have H2_ := (Option.bind_some _ _).symm.trans H; with_reducible exact H2_) | with_reducible exact H | (rw [hy117]; exact H) | exact H
   have Ny117 := ba_.mk hy117
   clear hy117
   have H' := ba_.mk H
   clear H
   go_wp2_with (first | ((with_reducible refine va_ (f := 45) rfl ?_); refine lc_ (some 65) rfl rfl Tryz.func45 Qb rfl #[.slice A0 l0.length c0] rfl Qm ?_; (with_reducible refine (nm_.calls _ _ l0 t114 _ ?side1 ?side2 A24.out).mono ?_); (case side1 => exact Xc); (case side2 => exact HC0.out); rintro e w28 ⟨v115, hv9, rfl, hb⟩; refine ⟨_, rfl, ?_⟩; have HV9 := ba_.mk hv9; clear hv9; have HS9 := ba_.mk (we1_ HV9.out (rj_ A24.out)); have HT9 := ba_.mk (ti1_ HV9.out (rj_ A24.out)); have HU9 := ba_.mk (si1_ HV9.out); have n0_ := ba_.mk (Kd.be_ (Qk HO_8.out) hb); have n2_ := ba_.mk (hb_ Qh hb); clear HO_8; clear HB; have HO_8 := n0_; have HB := n2_; clear n0_ n2_; (try clear hb); (try clear hb2); (try clear hk); (try clear hi)) | (refine wpList_store_row rfl 88 _ _ rfl w28.heap.size v115 rfl rfl 88 _ (heap_alloc_new _ _) HS9.out HT9.out HU9.out ?_; rw [World.setRow_alloc_new]; have HO116 := ba_.mk (ri1_ 88 w28 w.heap.size HV9.out (rj_ A24.out) (pb_ HB.out)); have n0_ := ba_.mk (Kd.bb_ HO_8.out (.cells v115 88)); have n1_ := ba_.mk (da_ HB.out (.cells v115 88)); clear HO_8; clear HB; have HO_8 := n0_; have HB := n1_; clear n0_ n1_; generalize w28.alloc (.cells v115 88) = w28b at HO_8 HB HO116 ⊢) | ((with_reducible refine ld_ (N := 69) rfl ?_); refine Kd.bq_ (Kd.int .i64) _ 87 rfl (N := 69) rfl 124 _ _ rfl ji25 rfl rfl Tryz.underlying124 (.int .i64 0) 8 zo_ rfl Qc Qa 0 (ok := fun _ => True) (okp := fun _ => True) rfl (fun _ hk => hk) trivial (of_decide_eq_true Qi) (Nat.le_trans (Nat.mul_le_mul_right _ (of_decide_eq_true Qi : ji25.toNat ≤ 35184372088832)) Qa) (Below.refl _ _) (Nat.le_refl _) ?_; intro v118 w29 ho30 hb hg_ hnew_; clear hg_ hnew_; (first | rw [← Ny117.out] at ho30 | (simp only [Int.reduceToNat] at ho30; rw [← Ny117.out] at ho30)); have n0_ := ba_.mk (Kd.ue_ (Qk HO_8.out) (Kd.cf_ ho30) hb); have n1_ := ba_.mk (Kd.be_ (Qk HO116.out) hb); have n2_ := ba_.mk (Kd.xd_ (Kd.fg_ ho30 (Kd.R_lt (Qk HO_8.out))) (pb_ Qh)); have n3_ := ba_.mk (hb_ Qh hb); clear HO_8; clear HO116; clear HB; have HO_8 := n0_; have HO116 := n1_; have HO119 := n2_; have HB := n3_; clear n0_ n1_ n2_ n3_; clear hb ho30; obtain ⟨Ao31, co31, eo31⟩ := Kd.td_ HO119.out; subst eo31))
   go_loopg [72] k1 (fun kq v72 w' => ∃ (x13_2 : List Int) (x72_2 : Int), v72 = .int .i64 x72_2 ∧ ba_ (pa_.l2 kq l0 l1 a2 x8_1 t114 x13_2 (y117.length : Int) x72_2 = some (r1, r2)) ∧ ba_ (kq ≤ k1) ∧ ba_ (Kd.R (Kd.int .i64) 87 w' w.heap.size (fun k_ => some k_ ≠ ((.slice Ao31 y117.length co31) : Value).ownBlock) u8 x8_1) ∧ ba_ (Kd.R (Kd.int .i64) 88 w' w.heap.size (fun _ => True) (.slice (some ⟨w28.heap.size, 0, none⟩) 6 6) t114) ∧ ba_ (Kd.R (Kd.int .i64) 87 w' w.heap.size (fun k_ => some k_ ≠ (u8 : Value).ownBlock) (.slice Ao31 y117.length co31) x13_2) ∧ ba_ (Below w.heap.size w w'))
   case atStart => exact ⟨(y117), (0), Ql, H', ⟨Nat.le_refl _⟩, ⟨by (with_reducible repeat (first | apply Kd.bb_ | apply Kd.cb_ | apply Kd.sb_)); exact Kd.fd_ HO_8.out (fun _ hk => hk.2)⟩, ⟨by (with_reducible repeat (first | apply Kd.bb_ | apply Kd.cb_ | apply Kd.sb_)); exact HO116.out⟩, ⟨by (with_reducible repeat (first | apply Kd.bb_ | apply Kd.cb_ | apply Kd.sb_)); exact Kd.fd_ HO119.out (fun _ hk => hk.2)⟩, ⟨Qh⟩⟩
   case round =>
    clear H'
    try clear c1
    try clear p1
    try clear q1
    try clear hx1
    try clear c2
    try clear p2
    try clear q2
    try clear hx2
    try clear c4
    try clear c6
    try clear c6b0
    try clear p6
    try clear c7
    try clear c7b0
    try clear c8
    try clear c8b0
    try clear c9
    try clear p10
    try clear q10
    try clear hx10
    try clear c11
    try clear c12
    try clear c12b0
    try clear c13
    try clear c13b0
    try clear c14
    try clear c14b0
    try clear c16
    try clear c16b0
    try clear c17
    try clear c17b0
    try clear p21
    try clear q21
    try clear hx21
    try clear hf21
    try clear c26
    try clear c26b0
    try clear c26b1
    try clear c27
    try clear c27b0
    try clear c27b1
    try clear hx104_0
    try clear hx108_0
    try clear hx109_0
    try clear hx21_0
    try clear p1
    try clear p10
    try clear p104
    try clear p108
    try clear p109
    try clear p2
    try clear p21
    try clear p6
    try clear q1
    try clear q10
    try clear q104
    try clear q108
    try clear q109
    try clear q21
    obtain ⟨x13_2, x72_2, rfl, HA, HK2, HO_8, HO_12, HO_13, HB⟩ := hrel
    have hl13_2 := (Kd.wb_ HO_13.out).1
    rw [hl13_2] at HO_13
    (try simp only [hl13_2])
    (try simp only [hl13_2] at HO_8)
    (try simp only [hl13_2] at HO_12)
    cases gk with
    | zero => exact absurd HA.out (by simp [pa_.l2])
    | succ k2 =>
     have H := HA.out
     clear HA
     simp only [pa_.l2] at H
     by_cases c32 : x72_2 < (y117.length : Int)
     ·rw [if_pos c32] at H
      have c32b0 := decide_eq_true c32
      (try simp only [hl13_2] at c32b0)
      clear c32
      have H' := ba_.mk H
      clear H
      obtain ⟨Ao33, co33, eo33⟩ := Kd.td_ HO_8.out
      subst eo33
      go_wp2
      go_loopg [77] k2 (fun kq v77 w' => ∃ (x13_3 : List Int) (x77_3 : Int), v77 = .int .i64 x77_3 ∧ ba_ (pa_.l3 kq l0 l1 a2 x8_1 t114 x13_3 x72_2 (y117.length : Int) x72_2 x8_1 (x8_1.length : Int) x77_3 = some (r1, r2)) ∧ ba_ (kq ≤ k2) ∧ ba_ (Kd.R (Kd.int .i64) 87 w' w.heap.size (fun k_ => some k_ ≠ ((.slice Ao31 x13_2.length co31) : Value).ownBlock) (.slice Ao33 x8_1.length co33) x8_1) ∧ ba_ (Kd.R (Kd.int .i64) 88 w' w.heap.size (fun _ => True) (.slice (some ⟨w28.heap.size, 0, none⟩) 6 6) t114) ∧ ba_ (Kd.R (Kd.int .i64) 87 w' w.heap.size (fun k_ => some k_ ≠ ((.slice Ao33 x8_1.length co33) : Value).ownBlock ∧ some k_ ≠ ((.slice Ao33 x8_1.length co33) : Value).ownBlock) (.slice Ao31 x13_2.length co31) x13_3) ∧ ba_ (Kd.R (Kd.int .i64) 87 w' w.heap.size (fun k_ => some k_ ≠ ((.slice Ao31 x13_2.length co31) : Value).ownBlock) (.slice Ao33 x8_1.length co33) x8_1) ∧ ba_ (Below w.heap.size w w'))
      case atStart => exact ⟨(x13_2), (0), Ql, H', ⟨Nat.le_refl _⟩, ⟨by (try simp only [hl13_2]); (with_reducible repeat (first | apply Kd.bb_ | apply Kd.cb_ | apply Kd.sb_)); exact HO_8.out⟩, ⟨by (try simp only [hl13_2]); (with_reducible repeat (first | apply Kd.bb_ | apply Kd.cb_ | apply Kd.sb_)); exact HO_12.out⟩, ⟨by (try simp only [hl13_2]); (with_reducible repeat (first | apply Kd.bb_ | apply Kd.cb_ | apply Kd.sb_)); exact Kd.fd_ HO_13.out (fun _ hk => ⟨hk, hk⟩)⟩, ⟨by (try simp only [hl13_2]); (with_reducible repeat (first | apply Kd.bb_ | apply Kd.cb_ | apply Kd.sb_)); exact HO_8.out⟩, ⟨Qh⟩⟩
      case round =>
       clear H'
       try clear c1
       try clear p1
       try clear q1
       try clear hx1
       try clear c2
       try clear p2
       try clear q2
       try clear hx2
       try clear c3
       try clear c4
       try clear c6
       try clear c6b0
       try clear p6
       try clear c7
       try clear c7b0
       try clear c8
       try clear c8b0
       try clear c9
       try clear p10
       try clear q10
       try clear hx10
       try clear c11
       try clear c12
       try clear c12b0
       try clear c13
       try clear c13b0
       try clear c14
       try clear c14b0
       try clear c16
       try clear c16b0
       try clear c17
       try clear c17b0
       try clear p21
       try clear q21
       try clear hx21
       try clear hf21
       try clear c26
       try clear c26b0
       try clear c26b1
       try clear c27
       try clear c27b0
       try clear c27b1
       try clear c32
       try clear c32b0
       try clear hx104_0
       try clear hx108_0
       try clear hx109_0
       try clear hx21_0
       try clear p1
       try clear p10
       try clear p104
       try clear p108
       try clear p109
       try clear p2
       try clear p21
       try clear p6
       try clear q1
       try clear q10
       try clear q104
       try clear q108
       try clear q109
       try clear q2
       try clear q21
       obtain ⟨x13_3, x77_3, rfl, HA, HK3, HO_8, HO_12, HO_13, HO_75, HB⟩ := hrel
       have hl13_3 := (Kd.wb_ HO_13.out).1
       rw [hl13_3] at HO_13
       (try simp only [hl13_3])
       (try simp only [hl13_3] at HO_8)
       (try simp only [hl13_3] at HO_12)
       (try simp only [hl13_3] at HO_75)
       cases gk with
       | zero => exact absurd HA.out (by simp [pa_.l3])
       | succ k3 =>
        have H := HA.out
        clear HA
        simp only [pa_.l3] at H
        by_cases c34 : x77_3 < (x8_1.length : Int)
        rotate_left
        ·rw [if_neg c34] at H
         have c34b0 := decide_eq_false c34
         clear c34
         have H' := ba_.mk H
         clear H
         go_wp2
         (try simp only [← hl13_2, ← hl13_3])
         go_roundg k3
         case measure => have := HK1.out; have := HK2.out; have := HK3.out; omega
         case rel => exact ⟨(x13_3), (wrap64 (x72_2 + 1)), Ql, H', ⟨by have := HK1.out; have := HK2.out; have := HK3.out; omega⟩, ⟨by (try simp only [hl13_2]); (try simp only [hl13_3]); (with_reducible repeat (first | apply Kd.bb_ | apply Kd.cb_ | apply Kd.sb_)); exact HO_8.out⟩, ⟨by (try simp only [hl13_2]); (try simp only [hl13_3]); (with_reducible repeat (first | apply Kd.bb_ | apply Kd.cb_ | apply Kd.sb_)); exact HO_12.out⟩, ⟨by (try simp only [hl13_2]); (try simp only [hl13_3]); (with_reducible repeat (first | apply Kd.bb_ | apply Kd.cb_ | apply Kd.sb_)); exact Kd.fd_ HO_13.out (fun _ hk => hk.1)⟩, ⟨Qh⟩⟩
        rw [if_pos c34] at H
        have c34b0 := decide_eq_true c34
        clear c34
        by_cases c35 : 0 ≤ x77_3
        rotate_left
        ·rw [if_neg c35] at H
         exact absurd H Qj
        rw [if_pos c35] at H
        have c35b0 := decide_eq_true c35
        clear c35
        by_cases c36 : x77_3 < (x8_1.length : Int)
        rotate_left
        ·rw [if_neg c36] at H
         exact absurd H Qj
        rw [if_pos c36] at H
        have c36b0 := decide_eq_true c36
        clear c36
        by_cases c37 : 0 ≤ x72_2
        rotate_left
        ·rw [if_neg c37] at H
         exact absurd H Qj
        rw [if_pos c37] at H
        have c37b0 := decide_eq_true c37
        clear c37
        obtain ⟨c38, H⟩ := Qq H
        have c38b0 := decide_eq_true c38
        clear c38
        obtain ⟨ji39, hji39⟩ : ∃ j_ : Int, (wrap64 ((wrap64 (x72_2 + (l1.length : Int))) - x77_3)) = j_ := ⟨_, rfl⟩
        replace H : (if 0 ≤ (ji39) then (if (ji39) < (t114.length : Int) then ((ch_.f (rd x8_1 x77_3) (rd t114 (ji39))).bind fun t123 => ((ii_.f (rd x13_3 x72_2) t123).bind fun t124 => (pa_.l3 k3 l0 l1 a2 x8_1 t114 (x13_3.set (x72_2 : Int).toNat t124) x72_2 (y117.length : Int) x72_2 x8_1 (x8_1.length : Int) (wrap64 (x77_3 + 1))))) else (none)) else (none)) = some (r1, r2) := by first | (rw [hji39] at H; exact H) | (simp only [hji39] at H ⊢; exact H)
        have hji39w : (IntKind.i64.wrap ((wrap64 (x72_2 + (l1.length : Int))) - x77_3)) = ji39 := (yb_ _).trans hji39
        by_cases c40 : 0 ≤ (ji39)
        rotate_left
        ·rw [if_neg c40] at H
         exact absurd H Qj
        rw [if_pos c40] at H
        have c40b0 := decide_eq_true c40
        clear c40
        by_cases c41 : (ji39) < (t114.length : Int)
        rotate_left
        ·rw [if_neg c41] at H
         exact absurd H Qj
        rw [if_pos c41] at H
        have c41b0 := decide_eq_true c41
        clear c41
        obtain ⟨t123, A42, H⟩ := Qo H
        try dsimp only at H
        obtain ⟨t124, A43, H⟩ := Qo H
        try dsimp only at H
        obtain ⟨y125, hy125⟩ : ∃ y_ : List Int, y_ = (x13_3.set (x72_2 : Int).toNat t124) := ⟨_, rfl⟩
        replace H : (pa_.l3 k3 l0 l1 a2 x8_1 t114 y125 x72_2 (y117.length : Int) x72_2 x8_1 (x8_1.length : Int) (wrap64 (x77_3 + 1))) = some (r1, r2) := by first | (rw [hy125]; with_reducible exact H) | (have H2_ := (Option.bind_some _ _).symm.trans H; rw [hy125]; with_reducible exact H2_) | (have H2_ := (Option.bind_some _ _).symm.trans H; with_reducible exact H2_) | with_reducible exact H | (rw [hy125]; exact H) | exact H
        have Ny125 := ba_.mk hy125
        clear hy125
        have H' := ba_.mk H
        clear H
        have p120 : 0 ≤ (x77_3 : Int) := of_decide_eq_true Qi
        have q120 : x77_3 < (x8_1.length : Int) := of_decide_eq_true Qi
        obtain ⟨ad120, e120, hx120_0⟩ := Kd.ee_ (Kd.wb_ HO_75.out).2.2 x77_3 p120 q120
        cases e120
        replace p120 := eq_true p120
        replace q120 := eq_true q120
        try go_wp2
        have n0_ := ba_.mk (Kd.sb_ HO_8.out)
        have n1_ := ba_.mk (Kd.sb_ HO_12.out)
        have n2_ := ba_.mk (Kd.sb_ HO_13.out)
        have n3_ := ba_.mk (Kd.sb_ HO_75.out)
        have n4_ := ba_.mk (ca_ HB.out)
        clear HO_8
        clear HO_12
        clear HO_13
        clear HO_75
        clear HB
        have HO_8 := n0_
        have HO_12 := n1_
        have HO_13 := n2_
        have HO_75 := n3_
        have HB := n4_
        clear n0_ n1_ n2_ n3_ n4_
        have p121 : 0 ≤ (x72_2 : Int) := of_decide_eq_true Qi
        have q121 : x72_2 < (x13_3.length : Int) := of_decide_eq_true Qi
        obtain ⟨ad121, e121, hx121_0⟩ := Kd.ee_ (Kd.wb_ HO_13.out).2.2 x72_2 p121 q121
        cases e121
        replace p121 := eq_true p121
        replace q121 := eq_true q121
        obtain ⟨Ao46, co46, eo46⟩ := Kd.td_ HO_12.out
        (first | subst eo46 | (injection eo46 with f1_ f2_ f3_; have f4_ := f1_.symm; have f5_ := f3_.symm; clear f1_ f2_ f3_; subst f4_; subst f5_))
        have p122 : 0 ≤ ((ji39) : Int) := of_decide_eq_true Qi
        have q122 : (ji39) < (t114.length : Int) := of_decide_eq_true Qi
        obtain ⟨ad122, e122, hx122_0⟩ := Kd.ee_ (Kd.wb_ HO_12.out).2.2 (ji39) p122 q122
        cases e122
        simp only [add_plain] at hx122_0
        have q6_ : (ji39 < 6) = True := eq_true (by have h6_ := rj_ A24.out; omega)
        replace p122 := eq_true p122
        replace q122 := eq_true q122
        refine ei_ (n := 19) (S := fun w' => w'.cell? (ad121.add (x72_2).toNat) = some (.int .i64 (rd x13_3 x72_2)) ∧ w'.cell? ⟨w28.heap.size, (ji39).toNat, none⟩ = some (.int .i64 (rd t114 (ji39)))) (ds := [18]) #[false, false, false, false, false, false, false, false, false, false, false, false, false, false, false, false, false, false, false] Qb rfl rfl ⟨hx121_0, hx122_0⟩ (fun hHeld => ?_); refine wh_ pa_.tab19 pa_.bits19 (fun HT_ HW_ => ?_)
        generalize wr.drew = w45 at HO_8 HO_12 HO_13 HO_75 HB hx121_0 hx122_0 hHeld ⊢
        refine qc_ (i := 0) (N := some 82) (v := ?_) (a' := ?_) #[true, false, false, false, false, false, false, false, false, false, false, false, false, false, false, false, false, false, false] rfl rfl Qn Qe (Or.inl ⟨by rfl, ?_⟩) ?_ ?_
        rotate_left
        ·exact Qg
        rotate_left
        ·exact Qd
        refine qc_ (i := 1) (N := some 83) (v := ?_) (a' := ?_) #[true, true, false, false, false, false, false, false, false, false, false, false, false, false, false, false, false, false, false] rfl rfl Qn Qe (Or.inl ⟨by rfl, ?_⟩) ?_ ?_
        rotate_left
        ·exact Qg
        rotate_left
        ·exact Qd
        refine qc_ (i := 2) (N := some 84) (v := ?_) (a' := ?_) #[true, true, true, false, false, false, false, false, false, false, false, false, false, false, false, false, false, false, false] rfl rfl Qn Qe (Or.inl ⟨by rfl, ?_⟩) ?_ ?_
        rotate_left
        ·exact Qg
        rotate_left
        ·exact Qd
        refine qc_ (i := 3) (N := some 85) (v := ?_) (a' := ?_) #[true, true, true, true, false, false, false, false, false, false, false, false, false, false, false, false, false, false, false] rfl rfl Qn Qe (Or.inl ⟨by rfl, ?_⟩) ?_ ?_
        rotate_left
        ·exact Qg
        rotate_left
        ·exact Qd
        refine qc_ (i := 4) (N := some 86) (v := ?_) (a' := ?_) #[true, true, true, true, true, false, false, false, false, false, false, false, false, false, false, false, false, false, false] rfl rfl Qn Qe (Or.inl ⟨by rfl, ?_⟩) ?_ ?_
        rotate_left
        ·exact Qg
        rotate_left
        ·exact Qd
        refine qc_ (i := 6) (N := some 88) (v := ?_) (a' := ?_) #[true, true, true, true, true, false, true, false, false, false, false, false, false, false, false, false, false, false, false] rfl rfl Qn Qe (Or.inl ⟨by rfl, ?_⟩) ?_ ?_
        rotate_left
        ·exact Qg
        rotate_left
        ·exact Qd
        refine qc_ (i := 7) (N := some 89) (v := ?_) (a' := ?_) #[true, true, true, true, true, false, true, true, false, false, false, false, false, false, false, false, false, false, false] rfl rfl Qn Qe (Or.inl ⟨by rfl, ?_⟩) ?_ ?_
        rotate_left
        ·exact Qg
        rotate_left
        ·exact Qd
        refine qc_ (i := 8) (N := some 90) (v := ?_) (a' := ?_) #[true, true, true, true, true, false, true, true, true, false, false, false, false, false, false, false, false, false, false] rfl rfl Qn Qe (Or.inl ⟨by rfl, ?_⟩) ?_ ?_
        rotate_left
        ·exact Qg
        rotate_left
        ·exact Qd
        refine qc_ (i := 9) (N := some 91) (v := ?_) (a' := ?_) #[true, true, true, true, true, false, true, true, true, true, false, false, false, false, false, false, false, false, false] rfl rfl Qn Qe (Or.inl ⟨by rfl, ?_⟩) ?_ ?_
        rotate_left
        ·exact Qg
        rotate_left
        ·exact Qd
        refine qc_ (i := 10) (N := some 92) (v := ?_) (a' := ?_) #[true, true, true, true, true, false, true, true, true, true, true, false, false, false, false, false, false, false, false] rfl rfl Qn Qe (Or.inl ⟨by rfl, ?_⟩) ?_ ?_
        rotate_left
        ·exact Qg
        rotate_left
        ·exact Qd
        refine qc_ (i := 11) (N := some 93) (v := ?_) (a' := ?_) #[true, true, true, true, true, false, true, true, true, true, true, true, false, false, false, false, false, false, false] rfl rfl Qn Qe (Or.inl ⟨by rfl, ?_⟩) ?_ ?_
        rotate_left
        ·exact Qg
        rotate_left
        ·exact Qd
        refine qc_ (i := 12) (N := some 94) (v := ?_) (a' := ?_) #[true, true, true, true, true, false, true, true, true, true, true, true, true, false, false, false, false, false, false] rfl rfl Qn Qe (Or.inl ⟨by rfl, ?_⟩) ?_ ?_
        rotate_left
        ·exact Qg
        rotate_left
        ·exact Qd
        refine qc_ (i := 13) (N := some 95) (v := ?_) (a' := ?_) #[true, true, true, true, true, false, true, true, true, true, true, true, true, true, false, false, false, false, false] rfl rfl Qn Qe (Or.inl ⟨by rfl, ?_⟩) ?_ ?_
        rotate_left
        ·exact Qg
        rotate_left
        ·exact Qd
        refine wf_ (i := 5) (N := some 87) (v := ?_) (a' := ?_) #[true, true, true, true, true, true, true, true, true, true, true, true, true, true, false, false, false, false, false] rfl rfl (ve_ HT_.out HW_.out Qb) Qe (Or.inl ⟨by rfl, ?_⟩) hHeld ?_ ?_
        rotate_left
        ·exact Xm
        rotate_left
        ·exact Qd
        refine wf_ (i := 14) (N := some 96) (v := ?_) (a' := ?_) #[true, true, true, true, true, true, true, true, true, true, true, true, true, true, true, false, false, false, false] rfl rfl (ve_ HT_.out HW_.out Qb) Qe (Or.inl ⟨by rfl, ?_⟩) hHeld ?_ ?_
        rotate_left
        ·exact Xm
        rotate_left
        ·exact Qd
        refine one_ (i := 15) (N := some 97) #[true, true, true, true, true, true, true, true, true, true, true, true, true, true, true, true, false, false, false] rfl rfl Qz Qc (fun K hK => ?_)
        refine zm_ Tryz.func116 Qb rfl #[.int .i64 (rd x8_1 x77_3), .int .i64 (rd t114 (ji39))] (by rfl) rfl rfl (by (try simp only [List.map_toArray, List.map_cons, List.map_nil]); first | done | (simp only [hji39]; rfl) | rfl | (simp only [List.length_drop, List.length_take]; rfl)) ?_
        with_reducible refine (ch_.calls (rd x8_1 x77_3) (rd t114 (ji39)) t123 _ A42.out).mono ?_
        rintro e w' ⟨rfl, ⟨nd, rfl⟩⟩
        refine ⟨_, rfl, ?_⟩
        refine hK.out _ _ ⟨hHeld.1, hHeld.2⟩ (fun hHeld => ?_)
        clear hK K
        refine ug_ (a' := ?_) ?_ ?_
        rotate_left
        ·show Act.put _ (some 97) _ = _
         simp only [Act.put, List.setIfInBounds_toArray, List.set_cons_zero, List.set_cons_succ, yb_, ac_]
         rfl
        refine one_ (i := 16) (N := some 98) #[true, true, true, true, true, true, true, true, true, true, true, true, true, true, true, true, true, false, false] rfl rfl Qz Qc (fun K hK => ?_)
        refine zm_ Tryz.func115 Qb rfl #[.int .i64 (rd x13_3 x72_2), .int .i64 t123] (by rfl) rfl rfl Qm ?_
        with_reducible refine (ii_.calls (rd x13_3 x72_2) t123 t124 _ A43.out).mono ?_
        rintro e w' ⟨rfl, ⟨nd, rfl⟩⟩
        refine ⟨_, rfl, ?_⟩
        have p44 : 0 ≤ (x72_2 : Int) := of_decide_eq_true Qi
        have q44 : (x72_2 : Int) < ((x13_3.length : Int) : Int) := of_decide_eq_true Qi
        obtain ⟨go44, co44, eo44, gb44, gl44, cl44, HG44⟩ := Kd.zi_ HO_13.out Qa
        (first | cases eo44 | (injection eo44 with ea_ en_ ec_; (first | subst ea_ | (injection ea_ with ea_; subst ea_)); subst ec_; clear en_))
        have GB44 := ba_.mk gb44
        have GG44 := ba_.mk HG44
        clear gb44 gl44 HG44
        (first | simp only [add_plain] at hx121_0 | skip)
        obtain ⟨hx44_0, hf44_0⟩ := Kd.ph_ 0 HO_13.out (x72_2 : Int) p44 q44
        replace p44 := eq_true p44
        replace q44 := eq_true q44
        have HP47 := Kd.wo_ HO_13.out (x72_2 : Int) t124
        rw [← Ny125.out] at HP47
        have HQ47 := ba_.mk HP47
        clear HP47
        refine hK.out _ _ ⟨hHeld.1, hHeld.2⟩ (fun hHeld => ?_)
        clear hK K
        refine ug_ (a' := ?_) ?_ ?_
        rotate_left
        ·show Act.put _ (some 98) _ = _
         simp only [Act.put, List.setIfInBounds_toArray, List.set_cons_zero, List.set_cons_succ, yb_, ac_]
         rfl
        refine qc_ (i := 17) (N := some 99) (v := ?_) (a' := ?_) #[true, true, true, true, true, true, true, true, true, true, true, true, true, true, true, true, true, true, false] rfl rfl Qn Qe (Or.inl ⟨by rfl, ?_⟩) ?_ ?_
        rotate_left
        ·exact Qg
        rotate_left
        ·exact Qd
        refine an_ (i := 18) (N := none) #[true, true, true, true, true, true, true, true, true, true, true, true, true, true, true, true, true, true, true] rfl rfl Qz Qc (fun K hK => ?_)
        refine em_ (w1 := ?_) (by rfl) rfl ?_ ?_
        rotate_left
        ·go_simp
         rfl
        refine hK.out _ _ ?_
        clear hK K
        refine yk_ Xt ?_
        try go_wp2
        (try simp only [← hl13_3])
        go_roundg k3
        case measure => have := HK1.out; have := HK2.out; have := HK3.out; omega
        case rel => exact ⟨(y125), (wrap64 (x77_3 + 1)), Ql, H', ⟨by have := HK1.out; have := HK2.out; have := HK3.out; omega⟩, ⟨by (try simp only [hl13_2]); (try simp only [hl13_3]); (with_reducible repeat (first | apply Kd.bb_ | apply Kd.cb_ | apply Kd.sb_)); exact Kd.fd_ (Kd.zf_ (p := ⟨go44, (x72_2 : Int).toNat, none⟩) (Kd.fd_ HO_8.out (fun k_ hk => (⟨hk, fun e_ => hk (by rw [e_]; rfl)⟩ : _ ∧ k_ ≠ go44))) (fun _ hk => hk.2) (.int .i64 t124)) (fun _ hk => hk.1)⟩, ⟨by (try simp only [hl13_2]); (try simp only [hl13_3]); (with_reducible repeat (first | apply Kd.bb_ | apply Kd.cb_ | apply Kd.sb_)); exact Kd.fd_ (Kd.zf_ (p := ⟨go44, (x72_2 : Int).toNat, none⟩) (Kd.xe_ HO_12.out GG44.out Qc) (fun _ hk => hk.2) (.int .i64 t124)) (fun _ hk => trivial)⟩, ⟨by (try simp only [hl13_2]); (try simp only [hl13_3]); (with_reducible repeat (first | apply Kd.bb_ | apply Kd.cb_ | apply Kd.sb_)); exact HQ47.out⟩, ⟨by (try simp only [hl13_2]); (try simp only [hl13_3]); (with_reducible repeat (first | apply Kd.bb_ | apply Kd.cb_ | apply Kd.sb_)); exact Kd.fd_ (Kd.zf_ (p := ⟨go44, (x72_2 : Int).toNat, none⟩) (Kd.fd_ HO_75.out (fun k_ hk => (⟨hk, fun e_ => hk (by rw [e_]; rfl)⟩ : _ ∧ k_ ≠ go44))) (fun _ hk => hk.2) (.int .i64 t124)) (fun _ hk => hk.1)⟩, ⟨by repeat (first | (with_reducible first | exact HB.out | apply da_ | apply aa_ | apply ca_ | refine fa_ ?_ GB44.out) | exact HB.out)⟩⟩
     rw [if_neg c32] at H
     have c32b0 := decide_eq_false c32
     (try simp only [hl13_2] at c32b0)
     clear c32
     by_cases c48 : a2 = 0
     ·rw [if_pos c48] at H
      have c48b0 : (a2 == 0) = true := beq_iff_eq.mpr c48
      have c48b1 : (a2 != 0) = false := bne_eq_false_iff_eq.mpr c48
      clear c48
      simp only [Option.some.injEq, Prod.mk.injEq] at H
      obtain ⟨rfl, rfl⟩ := H
      go_wp2
      go_ret2
      exact ⟨_, by first | rfl | (simp [ib_, jb_] <;> rfl) | (simp only [← hji25]; first | rfl | (simp [ib_, jb_] <;> rfl)) | (simp [*, ib_, jb_] <;> rfl), Q9, Qh⟩
     rw [if_neg c48] at H
     have c48b0 : (a2 == 0) = false := beq_eq_false_iff_ne.mpr c48
     have c48b1 : (a2 != 0) = true := bne_iff_ne.mpr c48
     have H' := ba_.mk H
     clear H
     go_wp2
     go_loopg [17, 108] k2 (fun kq v17 v108 w' => ∃ (x17_3 : List (List Int)) (x108_3 : Int), v108 = .int .i64 x108_3 ∧ ba_ (pa_.l4 kq l0 a2 x13_2 x17_3 (wrap64 ((x13_2.length : Int) - a2)) x108_3 = some (r1, r2)) ∧ ba_ (kq ≤ k2) ∧ ba_ (Kd.R (Kd.int .i64) 87 w' w.heap.size (fun _ => True) (.slice Ao31 x13_2.length co31) x13_2) ∧ ba_ (Kd.S (Kd.slice 87 (Kd.int .i64)) 124 w' w.heap.size (fun k_ => some k_ ≠ ((.slice Ao31 x13_2.length co31) : Value).ownBlock) v17 x17_3) ∧ ba_ (Below w.heap.size w w'))
     case atStart => exact ⟨(([] : List (List Int))), (0), Ql, H', ⟨Nat.le_refl _⟩, ⟨by (try simp only [hl13_2]); (with_reducible repeat (first | apply Kd.bb_ | apply Kd.cb_ | apply Kd.sb_)); exact Kd.fd_ HO_13.out (fun _ hk => trivial)⟩, ⟨by (try simp only [hl13_2]); first | exact Kd.qh_ _ _ _ _ _ | exact Kd.mh_ _ _ _ _ _ | exact Kd.rh_ _ _ _ _ _ | exact Kd.nh_ _ _ _ _ _ | exact Kd.vf_ _ _ _ _ _⟩, ⟨Qh⟩⟩
     case round =>
      clear H'
      try clear c1
      try clear p1
      try clear q1
      try clear hx1
      try clear c2
      try clear p2
      try clear q2
      try clear hx2
      try clear c3
      try clear c4
      try clear p4
      try clear q4
      try clear hx4
      try clear hf4
      try clear c6
      try clear c6b0
      try clear p6
      try clear c7
      try clear c7b0
      try clear c8
      try clear c8b0
      try clear c9
      try clear p10
      try clear q10
      try clear hx10
      try clear c11
      try clear c12
      try clear c12b0
      try clear p12
      try clear q12
      try clear hx12
      try clear c13
      try clear c13b0
      try clear c14
      try clear c14b0
      try clear c16
      try clear c16b0
      try clear c17
      try clear c17b0
      try clear p21
      try clear q21
      try clear hx21
      try clear hf21
      try clear c26
      try clear c26b0
      try clear c26b1
      try clear c27
      try clear c27b0
      try clear c27b1
      try clear c32
      try clear c32b0
      try clear c34
      try clear c34b0
      try clear c35
      try clear c35b0
      try clear c36
      try clear c36b0
      try clear c37
      try clear c37b0
      try clear c38
      try clear c38b0
      try clear c40
      try clear c40b0
      try clear c41
      try clear c41b0
      try clear p44
      try clear q44
      try clear hx44
      try clear hf44
      try clear c45
      try clear c48
      try clear c48b0
      try clear c48b1
      try clear hx104_0
      try clear hx108_0
      try clear hx109_0
      try clear hx120_0
      try clear hx121_0
      try clear hx122_0
      try clear hx21_0
      try clear hx44_0
      try clear p1
      try clear p10
      try clear p104
      try clear p108
      try clear p109
      try clear p120
      try clear p121
      try clear p122
      try clear p2
      try clear p21
      try clear p44
      try clear p6
      try clear q1
      try clear q10
      try clear q104
      try clear q108
      try clear q109
      try clear q120
      try clear q121
      try clear q122
      try clear q2
      try clear q21
      try clear q44
      obtain ⟨x17_3, x108_3, rfl, HA, HK3, HO_13, HO_17, HB⟩ := hrel
      cases gk with
      | zero => exact absurd HA.out (by simp [pa_.l4])
      | succ k3 =>
       have H := HA.out
       clear HA
       simp only [pa_.l4] at H
       by_cases c49 : x108_3 < (wrap64 ((x13_2.length : Int) - a2))
       ·rw [if_pos c49] at H
        have c49b0 := decide_eq_true c49
        clear c49
        have H' := ba_.mk H
        clear H
        go_wp2
        go_loopg [19, 20] k3 (fun kq v19 v20 w' => ∃ (x19_4 : List Int) (x20_4 : Int), v20 = .int .i64 x20_4 ∧ ba_ (pa_.l5 kq l0 a2 x13_2 x17_3 x108_3 x19_4 x20_4 (wrap64 ((x13_2.length : Int) - a2)) x108_3 = some (r1, r2)) ∧ ba_ (kq ≤ k3) ∧ ba_ (Kd.R (Kd.int .i64) 87 w' w.heap.size (fun k_ => some k_ ≠ (v19 : Value).ownBlock) (.slice Ao31 x13_2.length co31) x13_2) ∧ ba_ (Kd.S (Kd.slice 87 (Kd.int .i64)) 124 w' w.heap.size (fun k_ => some k_ ≠ ((.slice Ao31 x13_2.length co31) : Value).ownBlock ∧ some k_ ≠ (v19 : Value).ownBlock) u17 x17_3) ∧ ba_ (Kd.R (Kd.int .i64) 87 w' w.heap.size (fun k_ => some k_ ≠ ((.slice Ao31 x13_2.length co31) : Value).ownBlock) v19 x19_4) ∧ ba_ (Below w.heap.size w w'))
        case atStart => exact ⟨(([] : List Int)), (1), Ql, H', ⟨Nat.le_refl _⟩, ⟨by (try simp only [hl13_2]); (with_reducible repeat (first | apply Kd.bb_ | apply Kd.cb_ | apply Kd.sb_)); exact Kd.fd_ HO_13.out (fun _ hk => Q6)⟩, ⟨by (try simp only [hl13_2]); (with_reducible repeat (first | apply Kd.ye_ | apply Kd.ze_ | apply Kd.ag_)); exact Kd.uk_ HO_17.out (fun _ hk => ⟨hk, Q6⟩)⟩, ⟨by (try simp only [hl13_2]); first | exact Kd.vf_ _ _ _ _ _ | exact Kd.mh_ _ _ _ _ _ | exact Kd.rh_ _ _ _ _ _ | exact Kd.nh_ _ _ _ _ _ | exact Kd.qh_ _ _ _ _ _⟩, ⟨Qh⟩⟩
        case round =>
         clear H'
         try clear c1
         try clear p1
         try clear q1
         try clear hx1
         try clear c2
         try clear p2
         try clear q2
         try clear hx2
         try clear c3
         try clear c4
         try clear p4
         try clear q4
         try clear hx4
         try clear hf4
         try clear c6
         try clear c6b0
         try clear p6
         try clear c7
         try clear c7b0
         try clear c8
         try clear c8b0
         try clear c9
         try clear p10
         try clear q10
         try clear hx10
         try clear c11
         try clear c12
         try clear c12b0
         try clear p12
         try clear q12
         try clear hx12
         try clear c13
         try clear c13b0
         try clear c14
         try clear c14b0
         try clear c16
         try clear c16b0
         try clear c17
         try clear c17b0
         try clear p21
         try clear q21
         try clear hx21
         try clear hf21
         try clear c26
         try clear c26b0
         try clear c26b1
         try clear c27
         try clear c27b0
         try clear c27b1
         try clear c32
         try clear c32b0
         try clear c34
         try clear c34b0
         try clear c35
         try clear c35b0
         try clear c36
         try clear c36b0
         try clear c37
         try clear c37b0
         try clear c38
         try clear c38b0
         try clear c40
         try clear c40b0
         try clear c41
         try clear c41b0
         try clear p44
         try clear q44
         try clear hx44
         try clear hf44
         try clear c45
         try clear c48
         try clear c48b0
         try clear c48b1
         try clear c49
         try clear c49b0
         try clear hx104_0
         try clear hx108_0
         try clear hx109_0
         try clear hx120_0
         try clear hx121_0
         try clear hx122_0
         try clear hx21_0
         try clear hx44_0
         try clear p1
         try clear p10
         try clear p104
         try clear p108
         try clear p109
         try clear p12
         try clear p120
         try clear p121
         try clear p122
         try clear p2
         try clear p21
         try clear p4
         try clear p44
         try clear p6
         try clear q1
         try clear q10
         try clear q104
         try clear q108
         try clear q109
         try clear q12
         try clear q120
         try clear q121
         try clear q122
         try clear q2
         try clear q21
         try clear q4
         try clear q44
         obtain ⟨x19_4, x20_4, rfl, HA, HK4, HO_13, HO_17, HO_19, HB⟩ := hrel
         cases gk with
         | zero => exact absurd HA.out (by simp [pa_.l5])
         | succ k4 =>
          have H := HA.out
          clear HA
          simp only [pa_.l5] at H
          by_cases c50 : x20_4 ≤ a2
          ·rw [if_pos c50] at H
           have c50b0 := decide_eq_true c50
           clear c50
           obtain ⟨ji51, hji51⟩ : ∃ j_ : Int, (wrap64 ((wrap64 (x108_3 + a2)) - x20_4)) = j_ := ⟨_, rfl⟩
           replace H : (if 0 ≤ (ji51) then (if (ji51) < (x13_2.length : Int) then (if x19_4.length < 17592186044416 then (pa_.l5 k4 l0 a2 x13_2 x17_3 x108_3 (x19_4 ++ [rd x13_2 (ji51)]) (wrap64 (x20_4 + 1)) (wrap64 ((x13_2.length : Int) - a2)) x108_3) else (none)) else (none)) else (none)) = some (r1, r2) := by first | (rw [hji51] at H; exact H) | (simp only [hji51] at H ⊢; exact H)
           have hji51w : (IntKind.i64.wrap ((wrap64 (x108_3 + a2)) - x20_4)) = ji51 := (yb_ _).trans hji51
           by_cases c52 : 0 ≤ (ji51)
           rotate_left
           ·rw [if_neg c52] at H
            exact absurd H Qj
           rw [if_pos c52] at H
           have c52b0 := decide_eq_true c52
           clear c52
           by_cases c53 : (ji51) < (x13_2.length : Int)
           rotate_left
           ·rw [if_neg c53] at H
            exact absurd H Qj
           rw [if_pos c53] at H
           have c53b0 := decide_eq_true c53
           clear c53
           by_cases c54 : x19_4.length < 17592186044416
           rotate_left
           ·rw [if_neg c54] at H
            exact absurd H Qj
           rw [if_pos c54] at H
           have LMc54 := ba_.mk c54
           clear c54
           obtain ⟨y127, hy127⟩ : ∃ y_ : List Int, y_ = (x19_4 ++ [rd x13_2 (ji51)]) := ⟨_, rfl⟩
           replace H : (pa_.l5 k4 l0 a2 x13_2 x17_3 x108_3 y127 (wrap64 (x20_4 + 1)) (wrap64 ((x13_2.length : Int) - a2)) x108_3) = some (r1, r2) := by first | (rw [hy127]; with_reducible exact H) | (have H2_ := (Option.bind_some _ _).symm.trans H; rw [hy127]; with_reducible exact H2_) | (have H2_ := (Option.bind_some _ _).symm.trans H; with_reducible exact H2_) | with_reducible exact H | (rw [hy127]; exact H) | exact H
           have Ny127 := ba_.mk hy127
           clear hy127
           have H' := ba_.mk H
           clear H
           have p126 : 0 ≤ ((ji51) : Int) := of_decide_eq_true Qi
           have q126 : (ji51) < (x13_2.length : Int) := of_decide_eq_true Qi
           obtain ⟨ad126, e126, hx126_0⟩ := Kd.ee_ (Kd.wb_ HO_13.out).2.2 (ji51) p126 q126
           cases e126
           replace p126 := eq_true p126
           replace q126 := eq_true q126
           go_wp2_with (first | ((with_reducible refine md_ (b := .append) (xs := #[.tmp 116, .tmp 125]) rfl ?_); at_builtin; refine Kd.yf_ (Kd.int .i64) (w0 := w) w.heap.size rfl (.tmp 116) (.tmp 125) 124 87 (.int .i64 0) 8 rfl Tryz.underlying124 zo_ rfl Qc Qa u19 x19_4 (rd x13_2 (ji51)) [.int .i64 (rd x13_2 (ji51))] (fun k_ => some k_ ≠ (.slice (some ad126) x13_2.length co31 : Value).ownBlock) (fun _ => False) rfl rfl ?aP (fun _ hk => hk.elim) ?aF ?aO ?aB ?aS ?aL ?_; (case aP => exact rfl); (case aB => exact Xo); (case aF => exact (fun k_ hk => Kd.fresh' (Kd.R_lt (Qk HO_13.out)) k_ hk)); (case aO => exact (Qk HO_19.out)); (case aS => exact Xp); (case aL => have := LMc54.out; omega); intro v128 w55 ho hb hg hat; rw [← Ny127.out] at ho; have n0_ := ba_.mk (Kd.oh_ (ok := (fun _ => True)) (by (with_reducible repeat (first | apply Kd.bb_ | apply Kd.cb_ | apply Kd.sb_)); exact Kd.fd_ HO_13.out (fun _ hk => ⟨trivial, hk⟩)) hg hat); have n1_ := ba_.mk (Kd.ho_ (ok := (fun k_ => some k_ ≠ (.slice (some ad126) x13_2.length co31 : Value).ownBlock)) (Yn HO_17.out) hg hat); have n2_ := ba_.mk (hb); have n3_ := ba_.mk (ho); clear HO_13; clear HO_17; clear HB; clear HO_19; have HO_13 := n0_; have HO_17 := n1_; have HB := n2_; have HO129 := n3_; clear n0_ n1_ n2_ n3_; clear ho hb hg hat))
           go_roundg k4
           case measure => have := HK1.out; have := HK2.out; have := HK3.out; have := HK4.out; omega
           case rel => exact ⟨(y127), (wrap64 (x20_4 + 1)), Ql, H', ⟨by have := HK1.out; have := HK2.out; have := HK3.out; have := HK4.out; omega⟩, ⟨by (try simp only [hl13_2]); (with_reducible repeat (first | apply Kd.bb_ | apply Kd.cb_ | apply Kd.sb_)); exact Kd.fd_ HO_13.out (fun _ hk => hk.2)⟩, ⟨by (try simp only [hl13_2]); (with_reducible repeat (first | apply Kd.ye_ | apply Kd.ze_ | apply Kd.ag_)); exact HO_17.out⟩, ⟨by (try simp only [hl13_2]); (with_reducible repeat (first | apply Kd.bb_ | apply Kd.cb_ | apply Kd.sb_)); exact HO129.out⟩, ⟨Qh⟩⟩
          rw [if_neg c50] at H
          have c50b0 := decide_eq_false c50
          clear c50
          obtain ⟨ji56, hji56⟩ : ∃ j_ : Int, (wrap64 (x108_3 + a2)) = j_ := ⟨_, rfl⟩
          replace H : (if 0 ≤ (ji56) then (if (ji56) < (x13_2.length : Int) then (if x19_4.length < 17592186044416 then (if x17_3.length < 5864062014805 then (pa_.l4 k4 l0 a2 x13_2 (x17_3 ++ [(x19_4 ++ [rd x13_2 (ji56)])]) (wrap64 ((x13_2.length : Int) - a2)) (wrap64 (x108_3 + 1))) else (none)) else (none)) else (none)) else (none)) = some (r1, r2) := by first | (rw [hji56] at H; exact H) | (simp only [hji56] at H ⊢; exact H)
          have hji56w : (IntKind.i64.wrap (x108_3 + a2)) = ji56 := (yb_ _).trans hji56
          by_cases c57 : 0 ≤ (ji56)
          rotate_left
          ·rw [if_neg c57] at H
           exact absurd H Qj
          rw [if_pos c57] at H
          have c57b0 := decide_eq_true c57
          clear c57
          by_cases c58 : (ji56) < (x13_2.length : Int)
          rotate_left
          ·rw [if_neg c58] at H
           exact absurd H Qj
          rw [if_pos c58] at H
          have c58b0 := decide_eq_true c58
          clear c58
          by_cases c59 : x19_4.length < 17592186044416
          rotate_left
          ·rw [if_neg c59] at H
           exact absurd H Qj
          rw [if_pos c59] at H
          have LMc59 := ba_.mk c59
          clear c59
          obtain ⟨y131, hy131⟩ : ∃ y_ : List Int, y_ = (x19_4 ++ [rd x13_2 (ji56)]) := ⟨_, rfl⟩
          replace H : (if x17_3.length < 5864062014805 then (pa_.l4 k4 l0 a2 x13_2 (x17_3 ++ [y131]) (wrap64 ((x13_2.length : Int) - a2)) (wrap64 (x108_3 + 1))) else (none)) = some (r1, r2) := by first | (rw [hy131]; with_reducible exact H) | (have H2_ := (Option.bind_some _ _).symm.trans H; rw [hy131]; with_reducible exact H2_) | (have H2_ := (Option.bind_some _ _).symm.trans H; with_reducible exact H2_) | with_reducible exact H | (rw [hy131]; exact H) | exact H
          have Ny131 := ba_.mk hy131
          clear hy131
          by_cases c60 : x17_3.length < 5864062014805
          rotate_left
          ·rw [if_neg c60] at H
           exact absurd H Qj
          rw [if_pos c60] at H
          have LMc60 := ba_.mk c60
          clear c60
          obtain ⟨y134, hy134⟩ : ∃ y_ : List (List Int), y_ = (x17_3 ++ [y131]) := ⟨_, rfl⟩
          replace H : (pa_.l4 k4 l0 a2 x13_2 y134 (wrap64 ((x13_2.length : Int) - a2)) (wrap64 (x108_3 + 1))) = some (r1, r2) := by first | (rw [hy134]; with_reducible exact H) | (have H2_ := (Option.bind_some _ _).symm.trans H; rw [hy134]; with_reducible exact H2_) | (have H2_ := (Option.bind_some _ _).symm.trans H; with_reducible exact H2_) | with_reducible exact H | (rw [hy134]; exact H) | exact H
          have Ny134 := ba_.mk hy134
          clear hy134
          have H' := ba_.mk H
          clear H
          have p130 : 0 ≤ ((ji56) : Int) := of_decide_eq_true Qi
          have q130 : (ji56) < (x13_2.length : Int) := of_decide_eq_true Qi
          obtain ⟨ad130, e130, hx130_0⟩ := Kd.ee_ (Kd.wb_ HO_13.out).2.2 (ji56) p130 q130
          cases e130
          replace p130 := eq_true p130
          replace q130 := eq_true q130
          go_wp2_with (first | ((with_reducible refine md_ (b := .append) (xs := #[.tmp 128, .tmp 135]) rfl ?_); at_builtin; refine Kd.yf_ (Kd.int .i64) (w0 := w) w.heap.size rfl (.tmp 128) (.tmp 135) 124 87 (.int .i64 0) 8 rfl Tryz.underlying124 zo_ rfl Qc Qa u19 x19_4 (rd x13_2 (ji56)) [.int .i64 (rd x13_2 (ji56))] (fun k_ => some k_ ≠ (.slice (some ad130) x13_2.length co31 : Value).ownBlock) (fun _ => False) rfl rfl ?aP (fun _ hk => hk.elim) ?aF ?aO ?aB ?aS ?aL ?_; (case aP => exact rfl); (case aB => exact Xo); (case aF => exact (fun k_ hk => Kd.fresh' (Kd.R_lt (Qk HO_13.out)) k_ hk)); (case aO => exact (Qk HO_19.out)); (case aS => exact Xp); (case aL => have := LMc59.out; omega); intro v132 w61 ho hb hg hat; rw [← Ny131.out] at ho; have n0_ := ba_.mk (Kd.oh_ (ok := (fun _ => True)) (by (with_reducible repeat (first | apply Kd.bb_ | apply Kd.cb_ | apply Kd.sb_)); exact Kd.fd_ HO_13.out (fun _ hk => ⟨trivial, hk⟩)) hg hat); have n1_ := ba_.mk (Kd.ho_ (ok := (fun k_ => some k_ ≠ (.slice (some ad130) x13_2.length co31 : Value).ownBlock)) (Yn HO_17.out) hg hat); have n2_ := ba_.mk (hb); have n3_ := ba_.mk (ho); clear HO_13; clear HO_17; clear HB; clear HO_19; have HO_13 := n0_; have HO_17 := n1_; have HB := n2_; have HO133 := n3_; clear n0_ n1_ n2_ n3_; clear ho hb hg hat; obtain ⟨Ao63, co63, eo63⟩ := Kd.td_ HO133.out; subst eo63) | ((with_reducible refine md_ (b := .append) (xs := #[.tmp 127, .tmp 137]) rfl ?_); at_builtin; refine Kd.jn_ (Kd.slice 87 (Kd.int .i64)) (w0 := w) w.heap.size rfl (.tmp 127) (.tmp 137) 123 124 (.slice none 0 0) 24 rfl Tryz.underlying123 tj1_ rfl Qc Qa u17 x17_3 y131 [.slice Ao63 y131.length co63] (fun k_ => some k_ ≠ (.slice (some ad130) x13_2.length co31 : Value).ownBlock) (fun k_ => some k_ = (.slice Ao63 y131.length co63 : Value).ownBlock) rfl rfl ?aP (fun k_ hk_ => ((Kd.fd_ (ok' := fun k_ => ((fun k_ => some k_ ≠ (.slice (some ad130) x13_2.length co31 : Value).ownBlock)) k_ ∧ some k_ ≠ (u17 : Value).ownBlock) (Kd.ne_ (HO133.out) (Kd.ul_ HO_17.out) Qc) (fun k_ hk => ⟨hk.1, hk.2⟩))).1 k_ hk_.symm) ?aF ?aO ?aB ?aS ?aL ?_; (case aP => exact Kd.ob1_ (Kd.fd_ (Kd.cq_ rfl (Kd.fd_ (ok' := fun k_ => ((fun k_ => some k_ ≠ (.slice (some ad130) x13_2.length co31 : Value).ownBlock)) k_ ∧ some k_ ≠ (u17 : Value).ownBlock) (Kd.ne_ (HO133.out) (Kd.ul_ HO_17.out) Qc) (fun k_ hk => ⟨hk.1, hk.2⟩))) (fun _ h_ => h_))); (case aB => exact Xo); (case aF => exact (fun k_ hk => Kd.fresh' (Kd.R_lt (Qk HO_13.out)) k_ hk)); (case aO => exact (by (with_reducible repeat (first | apply Kd.ye_ | apply Kd.ze_ | apply Kd.ag_)); exact Kd.uk_ HO_17.out (fun k_ hk => ⟨hk.1, fun e_ => hk.2 e_⟩))); (case aS => exact Xp); (case aL => have := LMc60.out; omega); intro v135 w62 ho hb hg hat; rw [← Ny134.out] at ho; have n0_ := ba_.mk (Kd.um_ (Qk HO_13.out) (Kd.ul_ (Yn HO_17.out)) Qc hg); have n1_ := ba_.mk (hb); have n2_ := ba_.mk (ho); clear HO_13; clear HB; clear HO_17; clear HO133; have HO_13 := n0_; have HB := n1_; have HO136 := n2_; clear n0_ n1_ n2_; clear ho hb hg hat))
          go_roundg k4
          case measure => have := HK1.out; have := HK2.out; have := HK3.out; have := HK4.out; omega
          case rel => exact ⟨(y134), (wrap64 (x108_3 + 1)), Ql, H', ⟨by have := HK1.out; have := HK2.out; have := HK3.out; have := HK4.out; omega⟩, ⟨by (try simp only [hl13_2]); (with_reducible repeat (first | apply Kd.bb_ | apply Kd.cb_ | apply Kd.sb_)); exact Kd.fd_ HO_13.out (fun _ hk => trivial)⟩, ⟨by (try simp only [hl13_2]); (with_reducible repeat (first | apply Kd.ye_ | apply Kd.ze_ | apply Kd.ag_)); exact HO136.out⟩, ⟨Qh⟩⟩
       rw [if_neg c49] at H
       have c49b0 := decide_eq_false c49
       clear c49
       obtain ⟨⟨t137, t138⟩, A64, H⟩ := Qo H
       try dsimp only at H
       by_cases c65 : t138 = true
       rotate_left
       ·replace c65 := Bool.eq_false_iff.mpr c65
        subst c65
        have H1 : (some (([] : List Int), false)) = some (r1, r2) := by rw [if_neg (show ¬ (false = true) by decide)] at H; exact H
        clear H
        have H := H1
        clear H1
        simp only [Option.some.injEq, Prod.mk.injEq] at H
        obtain ⟨rfl, rfl⟩ := H
        obtain ⟨Ao83, co83, eo83⟩ := Kd.mk_ HO_17.out
        subst eo83
        go_wp2_with (first | ((with_reducible refine va_ (f := 96) rfl ?_); refine lc_ (some 142) rfl rfl Tryz.func96 Qb rfl #[.slice Ao83 x17_3.length co83] rfl Qm ?_; (refine (ui_.calls w.heap.size _ _ _ x17_3 t137 false _ HO_17.out (pb_ HB.out) A64.out).mono ?_); rintro e w84 ⟨v139, rfl, ho0, hb⟩; refine ⟨_, rfl, ?_⟩; have n2_ := ba_.mk (Kd.xd_ (Kd.fg_ ho0 (Kd.R_lt (Qk HO_13.out))) (pb_ Qh)); have n3_ := ba_.mk (HB.out.trans hb); clear HB; have HO140 := n2_; have HB := n3_; clear n2_ n3_; (try clear hb); (try clear hb2); (try clear hk); (try clear hi); (try clear ho0)))
        go_ret2
        exact ⟨_, by first | rfl | (simp [ib_, jb_] <;> rfl) | (simp only [← hji25]; first | rfl | (simp [ib_, jb_] <;> rfl)) | (simp [*, ib_, jb_] <;> rfl), Q9, Qh⟩
       subst c65
       have H1 : (pa_.l6 k3 l0 a2 t137 ([] : List Int) l0 (l0.length : Int) 0) = some (r1, r2) := by rw [if_pos rfl] at H; exact H
       clear H
       have H := H1
       clear H1
       have H' := ba_.mk H
       clear H
       obtain ⟨Ao66, co66, eo66⟩ := Kd.mk_ HO_17.out
       subst eo66
       go_wp2_with (first | ((with_reducible refine va_ (f := 96) rfl ?_); refine lc_ (some 142) rfl rfl Tryz.func96 Qb rfl #[.slice Ao66 x17_3.length co66] rfl Qm ?_; (refine (ui_.calls w.heap.size _ _ _ x17_3 t137 true _ HO_17.out (pb_ HB.out) A64.out).mono ?_); rintro e w67 ⟨v139, rfl, ho0, hb⟩; refine ⟨_, rfl, ?_⟩; have n2_ := ba_.mk (Kd.xd_ (Kd.fg_ ho0 (Kd.R_lt (Qk HO_13.out))) (pb_ Qh)); have n3_ := ba_.mk (HB.out.trans hb); clear HB; have HO140 := n2_; have HB := n3_; clear n2_ n3_; (try clear hb); (try clear hb2); (try clear hk); (try clear hi); (try clear ho0)))
       go_loopg [23, 149] k3 (fun kq v23 v149 w' => ∃ (x23_4 : List Int) (x149_4 : Int), v149 = .int .i64 x149_4 ∧ ba_ (pa_.l6 kq l0 a2 t137 x23_4 l0 (l0.length : Int) x149_4 = some (r1, r2)) ∧ ba_ (kq ≤ k3) ∧ ba_ (Kd.R (Kd.int .i64) 87 w' w.heap.size (fun _ => True) v139 t137) ∧ ba_ (Kd.R (Kd.int .i64) 3 w' w.heap.size (fun _ => True) v23 x23_4) ∧ ba_ (Below w.heap.size w w'))
       case atStart => exact ⟨(([] : List Int)), (0), Ql, H', ⟨Nat.le_refl _⟩, ⟨by (try simp only [hl13_2]); (with_reducible repeat (first | apply Kd.bb_ | apply Kd.cb_ | apply Kd.sb_)); exact Kd.fd_ HO140.out (fun _ hk => trivial)⟩, ⟨by (try simp only [hl13_2]); first | exact Kd.vf_ _ _ _ _ _ | exact Kd.mh_ _ _ _ _ _ | exact Kd.rh_ _ _ _ _ _ | exact Kd.nh_ _ _ _ _ _ | exact Kd.qh_ _ _ _ _ _⟩, ⟨Qh⟩⟩
       case round =>
        clear H'
        try clear c1
        try clear p1
        try clear q1
        try clear hx1
        try clear c2
        try clear p2
        try clear q2
        try clear hx2
        try clear c3
        try clear c4
        try clear p4
        try clear q4
        try clear hx4
        try clear hf4
        try clear c5
        try clear c6
        try clear c6b0
        try clear p6
        try clear c7
        try clear c7b0
        try clear c8
        try clear c8b0
        try clear c9
        try clear p10
        try clear q10
        try clear hx10
        try clear c11
        try clear c12
        try clear c12b0
        try clear p12
        try clear q12
        try clear hx12
        try clear c13
        try clear c13b0
        try clear p13
        try clear q13
        try clear hx13
        try clear c14
        try clear c14b0
        try clear c16
        try clear c16b0
        try clear c17
        try clear c17b0
        try clear p21
        try clear q21
        try clear hx21
        try clear hf21
        try clear c26
        try clear c26b0
        try clear c26b1
        try clear c27
        try clear c27b0
        try clear c27b1
        try clear c32
        try clear c32b0
        try clear c34
        try clear c34b0
        try clear c35
        try clear c35b0
        try clear c36
        try clear c36b0
        try clear c37
        try clear c37b0
        try clear c38
        try clear c38b0
        try clear c40
        try clear c40b0
        try clear c41
        try clear c41b0
        try clear p44
        try clear q44
        try clear hx44
        try clear hf44
        try clear c45
        try clear c48
        try clear c48b0
        try clear c48b1
        try clear c49
        try clear c49b0
        try clear c50
        try clear c50b0
        try clear c52
        try clear c52b0
        try clear c53
        try clear c53b0
        try clear c54
        try clear c57
        try clear c57b0
        try clear c58
        try clear c58b0
        try clear c59
        try clear c60
        try clear p64
        try clear c65
        try clear hx104_0
        try clear hx108_0
        try clear hx109_0
        try clear hx120_0
        try clear hx121_0
        try clear hx122_0
        try clear hx126_0
        try clear hx130_0
        try clear hx21_0
        try clear hx44_0
        try clear p1
        try clear p10
        try clear p104
        try clear p108
        try clear p109
        try clear p12
        try clear p120
        try clear p121
        try clear p122
        try clear p126
        try clear p130
        try clear p2
        try clear p21
        try clear p4
        try clear p44
        try clear p6
        try clear q1
        try clear q10
        try clear q104
        try clear q108
        try clear q109
        try clear q12
        try clear q120
        try clear q121
        try clear q122
        try clear q126
        try clear q130
        try clear q2
        try clear q21
        try clear q4
        try clear q44
        obtain ⟨x23_4, x149_4, rfl, HA, HK4, HO_21, HO_23, HB⟩ := hrel
        cases gk with
        | zero => exact absurd HA.out (by simp [pa_.l6])
        | succ k4 =>
         have H := HA.out
         clear HA
         simp only [pa_.l6] at H
         by_cases c68 : x149_4 < (l0.length : Int)
         rotate_left
         ·rw [if_neg c68] at H
          have c68b0 := decide_eq_false c68
          clear c68
          simp only [Option.some.injEq, Prod.mk.injEq] at H
          obtain ⟨rfl, rfl⟩ := H
          obtain ⟨Ao82, co82, eo82⟩ := Kd.td_ HO_23.out
          subst eo82
          go_wp2
          go_ret2
          exact ⟨_, by first | rfl | (simp [ib_, jb_] <;> rfl) | (simp only [← hji25]; first | rfl | (simp [ib_, jb_] <;> rfl)) | (simp [*, ib_, jb_] <;> rfl), by (with_reducible repeat (first | apply Kd.bb_ | apply Kd.cb_ | apply Kd.sb_)); exact HO_23.out, Qh⟩
         rw [if_pos c68] at H
         have c68b0 := decide_eq_true c68
         clear c68
         by_cases c69 : 0 ≤ x149_4
         rotate_left
         ·rw [if_neg c69] at H
          exact absurd H Qj
         rw [if_pos c69] at H
         have c69b0 := decide_eq_true c69
         clear c69
         by_cases c70 : x149_4 < (l0.length : Int)
         rotate_left
         ·rw [if_neg c70] at H
          exact absurd H Qj
         rw [if_pos c70] at H
         have c70b0 := decide_eq_true c70
         clear c70
         have H' := ba_.mk H
         clear H
         have p141 : 0 ≤ (x149_4 : Int) := of_decide_eq_true Qi
         have q141 : x149_4 < (l0.length : Int) := of_decide_eq_true Qi
         obtain ⟨ad141, e141, hx141_0⟩ := Kd.ee_ HR0.out x149_4 p141 q141
         cases e141
         replace hx141_0 := (HB.out.cell (World.block_lt_of_cell? w _ hx141_0)).trans hx141_0
         replace p141 := eq_true p141
         replace q141 := eq_true q141
         obtain ⟨Ao71, co71, eo71⟩ := Kd.td_ HO_21.out
         subst eo71
         go_wp2
         go_loopg [26, 156] k4 (fun kq v26 v156 w' => ∃ (x26_5 : Int) (x156_5 : Int), v26 = .int .i64 x26_5 ∧ v156 = .int .i64 x156_5 ∧ ba_ (pa_.l7 kq l0 a2 t137 x23_4 x149_4 (rd l0 x149_4) x26_5 l0 (l0.length : Int) x149_4 t137 (t137.length : Int) x156_5 = some (r1, r2)) ∧ ba_ (kq ≤ k4) ∧ ba_ (Kd.R (Kd.int .i64) 87 w' w.heap.size (fun _ => True) (.slice Ao71 t137.length co71) t137) ∧ ba_ (Kd.R (Kd.int .i64) 3 w' w.heap.size (fun _ => True) u23 x23_4) ∧ ba_ (Kd.R (Kd.int .i64) 87 w' w.heap.size (fun _ => True) (.slice Ao71 t137.length co71) t137) ∧ ba_ (Below w.heap.size w w'))
         case atStart => exact ⟨(1), (0), Ql, Ql, H', ⟨Nat.le_refl _⟩, ⟨X4⟩, ⟨Y7⟩, ⟨X4⟩, ⟨Qh⟩⟩
         case round =>
          clear H'
          try clear c1
          try clear p1
          try clear q1
          try clear hx1
          try clear c2
          try clear p2
          try clear q2
          try clear hx2
          try clear c3
          try clear c4
          try clear p4
          try clear q4
          try clear hx4
          try clear hf4
          try clear c5
          try clear c6
          try clear c6b0
          try clear p6
          try clear c7
          try clear c7b0
          try clear c8
          try clear c8b0
          try clear c9
          try clear p10
          try clear q10
          try clear hx10
          try clear c11
          try clear c12
          try clear c12b0
          try clear p12
          try clear q12
          try clear hx12
          try clear c13
          try clear c13b0
          try clear p13
          try clear q13
          try clear hx13
          try clear c14
          try clear c14b0
          try clear p14
          try clear q14
          try clear hx14
          try clear c16
          try clear c16b0
          try clear c17
          try clear c17b0
          try clear p21
          try clear q21
          try clear hx21
          try clear hf21
          try clear c26
          try clear c26b0
          try clear c26b1
          try clear c27
          try clear c27b0
          try clear c27b1
          try clear c32
          try clear c32b0
          try clear c34
          try clear c34b0
          try clear c35
          try clear c35b0
          try clear c36
          try clear c36b0
          try clear c37
          try clear c37b0
          try clear c38
          try clear c38b0
          try clear c40
          try clear c40b0
          try clear c41
          try clear c41b0
          try clear p44
          try clear q44
          try clear hx44
          try clear hf44
          try clear c45
          try clear c48
          try clear c48b0
          try clear c48b1
          try clear c49
          try clear c49b0
          try clear c50
          try clear c50b0
          try clear c52
          try clear c52b0
          try clear c53
          try clear c53b0
          try clear c54
          try clear c57
          try clear c57b0
          try clear c58
          try clear c58b0
          try clear c59
          try clear c60
          try clear p64
          try clear c65
          try clear c68
          try clear c68b0
          try clear c69
          try clear c69b0
          try clear c70
          try clear c70b0
          try clear hx104_0
          try clear hx108_0
          try clear hx109_0
          try clear hx120_0
          try clear hx121_0
          try clear hx122_0
          try clear hx126_0
          try clear hx130_0
          try clear hx141_0
          try clear hx21_0
          try clear hx44_0
          try clear p1
          try clear p10
          try clear p104
          try clear p108
          try clear p109
          try clear p12
          try clear p120
          try clear p121
          try clear p122
          try clear p126
          try clear p13
          try clear p130
          try clear p141
          try clear p2
          try clear p21
          try clear p4
          try clear p44
          try clear p6
          try clear p64
          try clear q1
          try clear q10
          try clear q104
          try clear q108
          try clear q109
          try clear q12
          try clear q120
          try clear q121
          try clear q122
          try clear q126
          try clear q13
          try clear q130
          try clear q141
          try clear q2
          try clear q21
          try clear q4
          try clear q44
          obtain ⟨x26_5, x156_5, rfl, rfl, HA, HK5, HO_21, HO_23, HO_154, HB⟩ := hrel
          cases gk with
          | zero => exact absurd HA.out (by simp [pa_.l7])
          | succ k5 =>
           have H := HA.out
           clear HA
           simp only [pa_.l7] at H
           by_cases c72 : x156_5 < (t137.length : Int)
           ·rw [if_pos c72] at H
            have c72b0 := decide_eq_true c72
            clear c72
            by_cases c73 : 0 ≤ x156_5
            rotate_left
            ·rw [if_neg c73] at H
             exact absurd H Qj
            rw [if_pos c73] at H
            have c73b0 := decide_eq_true c73
            clear c73
            by_cases c74 : x156_5 < (t137.length : Int)
            rotate_left
            ·rw [if_neg c74] at H
             exact absurd H Qj
            rw [if_pos c74] at H
            have c74b0 := decide_eq_true c74
            clear c74
            obtain ⟨t143, A75, H⟩ := Qo H
            try dsimp only at H
            obtain ⟨t144, A76, H⟩ := Qo H
            try dsimp only at H
            obtain ⟨t145, A77, H⟩ := Qo H
            try dsimp only at H
            have H' := ba_.mk H
            clear H
            have p142 : 0 ≤ (x156_5 : Int) := of_decide_eq_true Qi
            have q142 : x156_5 < (t137.length : Int) := of_decide_eq_true Qi
            obtain ⟨ad142, e142, hx142_0⟩ := Kd.ee_ (Kd.wb_ HO_154.out).2.2 x156_5 p142 q142
            cases e142
            replace p142 := eq_true p142
            replace q142 := eq_true q142
            go_wp2_with (first | ((with_reducible refine va_ (f := 95) rfl ?_); refine lc_ (some 168) rfl rfl Tryz.func95 Qb rfl #[.slice (some ad141) l0.length c0, .int .i64 x149_4, .int .i64 (wrap64 ((wrap64 (-x156_5)) - 1))] rfl Qm ?_; (with_reducible refine (g_at.calls _ _ l0 x149_4 (wrap64 ((wrap64 (-x156_5)) - 1)) t143 _ ?side1 ?side2 A75.out).mono ?_); (case side1 => exact Xc); (case side2 => exact HC0.out); rintro e w' ⟨rfl, ⟨nd, rfl⟩⟩; refine ⟨_, rfl, ?_⟩) | ((with_reducible refine va_ (f := 116) rfl ?_); refine lc_ (some 169) rfl rfl Tryz.func116 Qb rfl #[.int .i64 (rd t137 x156_5), .int .i64 t143] rfl Qm ?_; (with_reducible refine (ch_.calls (rd t137 x156_5) t143 t144 _ A76.out).mono ?_); rintro e w' ⟨rfl, ⟨nd, rfl⟩⟩; refine ⟨_, rfl, ?_⟩) | ((with_reducible refine va_ (f := 115) rfl ?_); refine lc_ (some 170) rfl rfl Tryz.func115 Qb rfl #[.int .i64 x26_5, .int .i64 t144] rfl Qm ?_; (with_reducible refine (ii_.calls x26_5 t144 t145 _ A77.out).mono ?_); rintro e w' ⟨rfl, ⟨nd, rfl⟩⟩; refine ⟨_, rfl, ?_⟩))
            go_roundg k5
            case measure => exact Y2
            case rel => exact ⟨(t145), (wrap64 (x156_5 + 1)), Ql, Ql, H', ⟨Y8⟩, ⟨X4⟩, ⟨Y7⟩, ⟨by (try simp only [hl13_2]); (with_reducible repeat (first | apply Kd.bb_ | apply Kd.cb_ | apply Kd.sb_)); exact HO_154.out⟩, ⟨Qh⟩⟩
           rw [if_neg c72] at H
           have c72b0 := decide_eq_false c72
           clear c72
           by_cases c78 : (rd l0 x149_4) = (-1)
           ·rw [if_pos c78] at H
            have c78b0 : ((rd l0 x149_4) == (-1)) = true := beq_iff_eq.mpr c78
            have c78b1 : ((rd l0 x149_4) != (-1)) = false := bne_eq_false_iff_eq.mpr c78
            clear c78
            have H' := ba_.mk H
            clear H
            go_wp2
            go_roundg k5
            case measure => exact Y2
            case rel => exact ⟨(x23_4), (wrap64 (x149_4 + 1)), Ql, H', ⟨Y8⟩, ⟨X4⟩, ⟨Y7⟩, ⟨Qh⟩⟩
           rw [if_neg c78] at H
           have c78b0 : ((rd l0 x149_4) == (-1)) = false := beq_eq_false_iff_ne.mpr c78
           have c78b1 : ((rd l0 x149_4) != (-1)) = true := bne_iff_ne.mpr c78
           by_cases c79 : x26_5 = 0
           rotate_left
           ·rw [if_neg c79] at H
            have c79b0 : (x26_5 == 0) = false := beq_eq_false_iff_ne.mpr c79
            have c79b1 : (x26_5 != 0) = true := bne_iff_ne.mpr c79
            have H' := ba_.mk H
            clear H
            go_wp2
            go_roundg k5
            case measure => exact Y2
            case rel => exact ⟨(x23_4), (wrap64 (x149_4 + 1)), Ql, H', ⟨Y8⟩, ⟨X4⟩, ⟨Y7⟩, ⟨Qh⟩⟩
           rw [if_pos c79] at H
           have c79b0 : (x26_5 == 0) = true := beq_iff_eq.mpr c79
           have c79b1 : (x26_5 != 0) = false := bne_eq_false_iff_eq.mpr c79
           clear c79
           by_cases c80 : x23_4.length < 17592186044416
           rotate_left
           ·rw [if_neg c80] at H
            exact absurd H Qj
           rw [if_pos c80] at H
           have LMc80 := ba_.mk c80
           clear c80
           obtain ⟨y146, hy146⟩ : ∃ y_ : List Int, y_ = (x23_4 ++ [x149_4]) := ⟨_, rfl⟩
           replace H : (pa_.l6 k5 l0 a2 t137 y146 l0 (l0.length : Int) (wrap64 (x149_4 + 1))) = some (r1, r2) := by first | (rw [hy146]; with_reducible exact H) | (have H2_ := (Option.bind_some _ _).symm.trans H; rw [hy146]; with_reducible exact H2_) | (have H2_ := (Option.bind_some _ _).symm.trans H; with_reducible exact H2_) | with_reducible exact H | (rw [hy146]; exact H) | exact H
           have Ny146 := ba_.mk hy146
           clear hy146
           have H' := ba_.mk H
           clear H
           go_wp2_with (first | ((with_reducible refine md_ (b := .append) (xs := #[.tmp 178, .tmp 180]) rfl ?_); at_builtin; refine Kd.yf_ (Kd.int .i64) (w0 := w) w.heap.size rfl (.tmp 178) (.tmp 180) 22 3 (.int .i64 0) 8 rfl Tryz.underlying22 zh_ rfl Qc Qa u23 x23_4 x149_4 [.int .i64 x149_4] (fun _ => True) (fun _ => False) rfl rfl ?aP (fun _ hk => hk.elim) ?aF ?aO ?aB ?aS ?aL ?_; (case aP => exact rfl); (case aB => exact Xo); (case aF => exact Xn); (case aO => exact (Qk HO_23.out)); (case aS => exact Xp); (case aL => have := LMc80.out; omega); intro v147 w81 ho hb hg hat; rw [← Ny146.out] at ho; have n0_ := ba_.mk (Kd.um_ (Qk HO_21.out) (Kd.lk_ (Qk HO_23.out)) Qc hg); have n1_ := ba_.mk (Kd.um_ (Qk HO_154.out) (Kd.lk_ (Qk HO_23.out)) Qc hg); have n2_ := ba_.mk (hb); have n3_ := ba_.mk (ho); clear HO_21; clear HO_154; clear HB; clear HO_23; have HO_21 := n0_; have HO_154 := n1_; have HB := n2_; have HO148 := n3_; clear n0_ n1_ n2_ n3_; clear ho hb hg hat))
           go_roundg k5
           case measure => exact Y2
           case rel => exact ⟨(y146), (wrap64 (x149_4 + 1)), Ql, H', ⟨Y8⟩, ⟨X4⟩, ⟨by (try simp only [hl13_2]); (with_reducible repeat (first | apply Kd.bb_ | apply Kd.cb_ | apply Kd.sb_)); exact HO148.out⟩, ⟨Qh⟩⟩
end Go.Proofs.YtpkhgapifnjbeaaGreatDoor.L
end
section
namespace Go.Proofs.YtpkhgapifnjbeaaGreatDoor.L
open RowKit G Zw.PrintWords Zw.PrintLast Zw.PrintMore
attribute [local go_sem] pd_ rd_ yd_ zd_ dd_ ed_ qd_ sd_
end Go.Proofs.YtpkhgapifnjbeaaGreatDoor.L
end
section
namespace Go.Proofs.YtpkhgapifnjbeaaGreatDoor.L
open RowKit G Zw.PrintWords Zw.PrintLast Zw.PrintMore
attribute [local go_sem] pd_ rd_ yd_ zd_ dd_ ed_ qd_ sd_
end Go.Proofs.YtpkhgapifnjbeaaGreatDoor.L
end
section
namespace Go.Proofs.YtpkhgapifnjbeaaGreatDoor.R
open RowKit G Rs Zw.PrintWords Zw.PrintLast Zw.PrintMore
attribute [local go_sem] pd_ rd_ yd_ zd_ dd_ ed_ qd_ sd_
end Go.Proofs.YtpkhgapifnjbeaaGreatDoor.R
end
section
namespace Go.Proofs.YtpkhgapifnjbeaaGreatDoor.R
open RowKit G Rs Zw.PrintWords Zw.PrintLast Zw.PrintMore
attribute [local go_sem] pd_ rd_ yd_ zd_ dd_ ed_ qd_ sd_
end Go.Proofs.YtpkhgapifnjbeaaGreatDoor.R
end
section
namespace Go.Proofs.YtpkhgapifnjbeaaGreatDoor.R
open RowKit G Rs Zw.PrintWords Zw.PrintLast Zw.PrintMore
attribute [local go_sem] pd_ rd_ yd_ zd_ dd_ ed_ qd_ sd_
end Go.Proofs.YtpkhgapifnjbeaaGreatDoor.R
end
section
namespace Go.Proofs.YtpkhgapifnjbeaaGreatDoor.K
open RowKit G Zw.PrintWords Zw.PrintLast Zw.PrintMore
attribute [local go_sem] pd_ rd_ yd_ zd_ dd_ ed_ qd_ sd_
end Go.Proofs.YtpkhgapifnjbeaaGreatDoor.K
end
section
namespace Go.Proofs.YtpkhgapifnjbeaaGreatDoor.K
open RowKit G Zw.PrintWords Zw.PrintLast Zw.PrintMore
attribute [local go_sem] pd_ rd_ yd_ zd_ dd_ ed_ qd_ sd_
def wk_.f (a0 : Int) (a1 : Int) : Option (Int × Int) := some (IntKind.u64.wrap ((IntKind.u64.wrap ((IntKind.u64.wrap ((a0 / 4294967296) * (a1 / 4294967296))) + ((IntKind.u64.wrap ((IntKind.u64.wrap ((a0 / 4294967296) * (Go.bits .and .u64 a1 4294967295))) + ((IntKind.u64.wrap ((Go.bits .and .u64 a0 4294967295) * (Go.bits .and .u64 a1 4294967295))) / 4294967296))) / 4294967296))) + ((IntKind.u64.wrap ((Go.bits .and .u64 (IntKind.u64.wrap ((IntKind.u64.wrap ((a0 / 4294967296) * (Go.bits .and .u64 a1 4294967295))) + ((IntKind.u64.wrap ((Go.bits .and .u64 a0 4294967295) * (Go.bits .and .u64 a1 4294967295))) / 4294967296))) 4294967295) + (IntKind.u64.wrap ((Go.bits .and .u64 a0 4294967295) * (a1 / 4294967296))))) / 4294967296)), IntKind.u64.wrap (a0 * a1))
set_option maxHeartbeats 8000000 in
set_option maxRecDepth 100000 in
theorem wk_.calls (a0 : Int) (a1 : Int) (r1 : Int) (r2 : Int) (w : World) (h : wk_.f a0 a1 = some (r1, r2)) :
  Calls Tryz.prog 100 #[.int .u64 a0, .int .u64 a1] w fun e w' => e = .returned (.tuple #[.int .u64 r1, .int .u64 r2]) ∧ vb_ w w' := by
 have H : (some (IntKind.u64.wrap ((IntKind.u64.wrap ((IntKind.u64.wrap ((a0 / 4294967296) * (a1 / 4294967296))) + ((IntKind.u64.wrap ((IntKind.u64.wrap ((a0 / 4294967296) * (Go.bits .and .u64 a1 4294967295))) + ((IntKind.u64.wrap ((Go.bits .and .u64 a0 4294967295) * (Go.bits .and .u64 a1 4294967295))) / 4294967296))) / 4294967296))) + ((IntKind.u64.wrap ((Go.bits .and .u64 (IntKind.u64.wrap ((IntKind.u64.wrap ((a0 / 4294967296) * (Go.bits .and .u64 a1 4294967295))) + ((IntKind.u64.wrap ((Go.bits .and .u64 a0 4294967295) * (Go.bits .and .u64 a1 4294967295))) / 4294967296))) 4294967295) + (IntKind.u64.wrap ((Go.bits .and .u64 a0 4294967295) * (a1 / 4294967296))))) / 4294967296)), IntKind.u64.wrap (a0 * a1))) = some (r1, r2) := h
 clear h
 simp only [Option.some.injEq, Prod.mk.injEq] at H
 obtain ⟨rfl, rfl⟩ := H
 go_enter Tryz.func100, Tryz.ntmps100
 go_wp2
 go_ret2
 exact ⟨Ql, Qx⟩
def lt_.f (a0 : Int) (a1 : Int) : Option (Int × Int) := (wk_.f a0 a1).bind fun bt102 => (some (bt102.1, bt102.2))
set_option maxHeartbeats 8000000 in
set_option maxRecDepth 100000 in
theorem lt_.calls (a0 : Int) (a1 : Int) (r1 : Int) (r2 : Int) (w : World) (h : lt_.f a0 a1 = some (r1, r2)) :
  Calls Tryz.prog 71 #[.int .u64 a0, .int .u64 a1] w fun e w' => e = .returned (.tuple #[.int .u64 r1, .int .u64 r2]) ∧ vb_ w w' := by
 have H : ((wk_.f a0 a1).bind fun bt102 => (some (bt102.1, bt102.2))) = some (r1, r2) := h
 clear h
 obtain ⟨⟨t102, t103⟩, A3, H⟩ := Qo H
 try dsimp only at H
 simp only [Option.some.injEq, Prod.mk.injEq] at H
 obtain ⟨rfl, rfl⟩ := H
 go_enter Tryz.func71, Tryz.ntmps71
 go_wp2_with (first | ((with_reducible refine va_ (f := 100) rfl ?_); refine lc_ (some 25) rfl rfl Tryz.func100 Qb rfl #[.int .u64 a0, .int .u64 a1] rfl Qm ?_; (with_reducible refine (wk_.calls a0 a1 t102 t103 _ A3.out).mono ?_); rintro e w' ⟨rfl, ⟨nd, rfl⟩⟩; refine ⟨_, rfl, ?_⟩))
 go_ret2
 exact ⟨Ql, Qx⟩
end Go.Proofs.YtpkhgapifnjbeaaGreatDoor.K
end
section
namespace Go.Proofs.YtpkhgapifnjbeaaGreatDoor.K
open RowKit G Zw.PrintWords Zw.PrintLast Zw.PrintMore
attribute [local go_sem] pd_ rd_ yd_ zd_ dd_ ed_ qd_ sd_
end Go.Proofs.YtpkhgapifnjbeaaGreatDoor.K
end
section
namespace Go.Proofs.YtpkhgapifnjbeaaGreatDoor.G
open RowKit Zw.PrintWords Zw.PrintLast Zw.PrintMore Rs
theorem M_int0 (W : World) (base : Nat) : (Kd.int .i64).M W base (fun _ => False) (0 : Int) (Value.cells (.int .i64 0)).toList := rfl
set_option maxHeartbeats 4000000 in
set_option maxRecDepth 100000 in
theorem yc1_ (n : Nat) (h1 : 1 ≤ n) (hn : n ≤ 1000) (w : World) :
  Calls Tryz.prog 93 #[.slice none 0 0, .int .i64 n] w fun e w' => ∃ v : Value, e = .returned v ∧ Kd.R (Kd.int .i64) 3 w' w.heap.size (fun _ => True) v [] ∧ Below w.heap.size w w' := by
 have hw : wrap64 ((n : Int) - wrap64 ((0 : Int) - 0)) = (n : Int) := by unfold wrap64; omega
 have hw0 : wrap64 ((0 : Int) - 0) = (0 : Int) := by unfold wrap64; omega
 have hw1 : wrap64 ((n : Int) - 0) = (n : Int) := by unfold wrap64; omega
 have hk := Lib.hid hn
 go_enter Tryz.func93, Tryz.ntmps93
 go_wp2_with (first | ((with_reducible refine ld_ (N := 22) rfl ?_); refine Kd.or_ (Kd.int .i64) w.heap.size rfl _ _ 22 3 3 (.int .i64 0) 8 rfl Tryz.underlying22 (k := .i64) Tryz.underlying3 Qb rfl Qc Qc (.slice none 0 0) [] (0 : Int) (n : Int) (fun _ => True) rfl rfl (M_int0 _ _) (fun _ _ => trivial) (Kd.vf_ _ _ _ _ _) Qa (Below.refl _ _) (Nat.le_refl _) (by have := hk.out; simp only [List.length_nil, Int.toNat_natCast]; omega) ?_; intro v1 w1 ho hb hg hat; clear hg hat; rw [Int.toNat_natCast] at ho; obtain ⟨go, co, eo, hgo, hgl, _⟩ := Kd.zi_ ho (by simp only [List.nil_append, List.length_replicate]; omega); subst eo; have HO := Lib.hid ho; have HB := Lib.hid hb; clear ho hb))
 go_ret
 exact ⟨_, rfl, Kd.sb1_ HO.out (Nat.zero_le _), HB.out⟩
set_option maxHeartbeats 4000000 in
set_option maxRecDepth 100000 in
theorem ea1_ (w : World) : Calls Tryz.prog 93 #[.slice none 0 0, .int .i64 (0 : Nat)] w fun e w' => e = .returned (.slice none 0 0) ∧ w = w' := by
 have hw : wrap64 ((0 : Int) - wrap64 ((0 : Int) - 0)) = (0 : Int) := by unfold wrap64; omega
 have hw0 : wrap64 ((0 : Int) - 0) = (0 : Int) := by unfold wrap64; omega
 go_enter Tryz.func93, Tryz.ntmps93
 go_wp2
 go_ret
 exact ⟨rfl, rfl⟩
theorem qf1_ (n : Nat) (hn : n ≤ 1000) (w : World) :
  Calls Tryz.prog 93 #[.slice none 0 0, .int .i64 n] w fun e w' => ∃ v : Value, e = .returned v ∧ Kd.R (Kd.int .i64) 3 w' w.heap.size (fun _ => True) v [] ∧ Below w.heap.size w w' := by
 by_cases h1 : 1 ≤ n
 ·exact yc1_ n h1 hn w
 obtain rfl : n = 0 := by omega
 exact (ea1_ w).mono fun e w' ⟨he, hw⟩ => ⟨_, he, Kd.vf_ _ _ _ _ _, hw ▸ Below.refl _ _⟩
def vr_ (a b i : Nat) : Nat := if i = 0 then 0 else if i = 1 then a else a + b
def jr_ (l0 l1 : List Int) (i : Nat) : List Int := if i = 0 then [] else if i = 1 then l0 else l0 ++ l1
set_option maxHeartbeats 4000000 in
set_option maxRecDepth 100000 in
theorem pw_ (b cb : Nat) (A0 : Option Addr) (c0 : Nat) (l0 : List Int) (A1 : Option Addr) (c1 : Nat) (l1 : List Int) (w : World) (hb0 : w.cell? ⟨b, 0, none⟩ = some (.slice A0 l0.length c0)) (hb1 : w.cell? ⟨b, 1, none⟩ = some (.slice A1 l1.length c1))
  (hr0 : Kd.C (Kd.int .i64) w A0 l0.length l0) (hc0 : l0.length ≤ c0) (hr1 : Kd.C (Kd.int .i64) w A1 l1.length l1) (hc1 : l1.length ≤ c1) (hl0 : l0.length ≤ 500) (hl1 : l1.length ≤ 500) :
  Calls Tryz.prog 66 #[.slice (some ⟨b, 0, none⟩) 2 cb] w fun e w' => ∃ v : Value, e = .returned v ∧ Kd.R (Kd.int .i64) 3 w' w.heap.size (fun _ => True) v (l0 ++ l1) ∧ Below w.heap.size w w' := by
 have HR0 := Lib.hid hr0
 have HR1 := Lib.hid hr1
 have HC0 := Lib.hid hc0
 have HC1 := Lib.hid hc1
 clear hr0 hr1 hc0 hc1
 go_enter Tryz.func66, Tryz.ntmps66
 go_wp2
 go_loop [3, 11] (fun v3 v11 => ∃ i : Nat, i ≤ 2 ∧ v11 = .int .i64 i ∧ v3 = .int .i64 (vr_ l0.length l1.length i : Nat)) (fun _ v => 2 - (intOf v).toNat)
 case atStart => exact ⟨0, Qa, rfl, rfl⟩
 case round =>
  obtain ⟨i, hi, rfl, rfl⟩ := hrel
  by_cases hi2 : i < 2
  ·obtain ⟨A, n, c, hcell, hlen, hup⟩ : ∃ (A : Option Addr) (n c : Nat), w.cell? ⟨b, i, none⟩ = some (.slice A n c) ∧ n ≤ 500 ∧ vr_ l0.length l1.length (i + 1) = vr_ l0.length l1.length i + n ∧ vr_ l0.length l1.length i ≤ 500 := by
    rcases (show i = 0 ∨ i = 1 from by omega) with rfl | rfl
    ·exact ⟨A0, l0.length, c0, hb0, hl0, by simp [vr_], by simp [vr_]⟩
    ·exact ⟨A1, l1.length, c1, hb1, hl1, by simp [vr_], by simp [vr_]; omega⟩
   generalize vr_ l0.length l1.length i = s at hup ⊢
   have hw : wrap64 ((s : Int) + (n : Int)) = ((s + n : Nat) : Int) := by unfold wrap64; omega
   have hU := Lib.hid hup.1
   clear hup
   go_wp2
   go_round
   case rel => exact ⟨i + 1, Qa, by go_num, by rw [hU.out]; first | rfl | (rw [← hw]; done) | (simp [hw]; done) | (push_cast; rfl) | trace_state⟩
   case measure => simp [intOf]; omega
  obtain rfl : i = 2 := by omega
  have hup : vr_ l0.length l1.length 2 = l0.length + l1.length := rfl
  rw [hup]
  obtain ⟨N, hN⟩ : ∃ N, N = l0.length + l1.length := ⟨_, rfl⟩
  rw [← hN]
  have hk := Lib.hid (show N ≤ 1000 from by omega)
  have hNN := Lib.hid hN
  clear hN hup
  go_wp2_with (first | ((with_reducible refine va_ (f := 93) rfl ?_); refine lc_ (some 24) rfl rfl Tryz.func93 Qb rfl #[.slice none 0 0, .int .i64 N] rfl X5 ?_; (with_reducible refine (qf1_ N hk.out _).mono ?_); rintro e w1 ⟨v1, rfl, ho, hb⟩; refine ⟨_, rfl, ?_⟩; have HO := Lib.hid ho; have HB := Lib.hid hb; clear ho hb))
  go_loopw [6, 27] (fun v6 v27 wr => ∃ i : Nat, i ≤ 2 ∧ v27 = .int .i64 i ∧ Hid (Kd.R (Kd.int .i64) 3 wr w.heap.size (fun _ => True) v6 (jr_ l0 l1 i)) ∧ Hid (Below w.heap.size w wr)) (fun _ v _ => 2 - (intOf v).toNat)
  case atStart => exact ⟨0, Qa, rfl, HO, HB⟩
  case round =>
   clear HO HB
   obtain ⟨i, hi, rfl, HO, HB⟩ := hrel
   by_cases hi2 : i < 2
   rotate_left
   ·obtain rfl : i = 2 := by omega
    go_wp2
    go_ret
    exact ⟨_, rfl, HO.out, HB.out⟩
   obtain ⟨A, l, c, hcell, hread, hup, hlen⟩ : ∃ (A : Option Addr) (l : List Int) (c : Nat), wr.cell? ⟨b, i, none⟩ = some (.slice A l.length c) ∧ Hid (Kd.C (Kd.int .i64) wr A l.length l) ∧ Hid (jr_ l0 l1 (i + 1) = jr_ l0 l1 i ++ l) ∧ Hid ((jr_ l0 l1 i).length + l.length ≤ 1000) := by
    have hlt0 := World.block_lt_of_cell? w _ hb0
    have hlt1 := World.block_lt_of_cell? w _ hb1
    rcases (show i = 0 ∨ i = 1 from by omega) with rfl | rfl
    ·exact ⟨A0, l0, c0, (HB.out.cell hlt0).trans hb0, Lib.hid (Kd.re_ HR0.out HB.out), Lib.hid (by simp [jr_]), Lib.hid (by simp [jr_]; omega)⟩
    ·exact ⟨A1, l1, c1, (HB.out.cell hlt1).trans hb1, Lib.hid (Kd.re_ HR1.out HB.out), Lib.hid (by simp [jr_]), Lib.hid (by simp [jr_]; omega)⟩
   obtain ⟨Ao, co, eo⟩ := Kd.td_ HO.out
   subst eo
   go_wp2_with (first | ((with_reducible refine md_ (b := .append) (xs := #[.tmp 31, .tmp 32]) rfl ?_); at_builtin; refine Kd.eh_ (Kd.int .i64) (w0 := w) w.heap.size rfl (.tmp 31) (.tmp 32) 22 3 (.int .i64 0) 8 rfl Tryz.underlying22 Qb rfl Qc Qa (.slice Ao (jr_ l0 l1 i).length co) (jr_ l0 l1 i) l A l.length c (fun _ => True) (fun _ => False) rfl rfl HO.out hread.out (fun _ _ h => h) (fun _ h => h.elim) (fun _ _ => trivial) HB.out (pb_ HB.out) (by have := hlen.out; omega) ?_; intro v2 w2 ho hb hg hat; clear hg hat; have HO1 := Lib.hid (show Kd.R (Kd.int .i64) 3 w2 w.heap.size (fun _ => True) v2 (jr_ l0 l1 (i + 1)) from by rw [hup.out]; exact ho); have HB1 := Lib.hid hb; clear ho hb))
   go_roundw
   case rel => exact ⟨i + 1, Qa, by go_num, HO1, HB1⟩
   case measure => simp [intOf]; omega
def repL (x : Int) (k : Nat) : List Value := List.replicate k (.int .i64 x) ++ List.replicate (6 - k) (.int .i64 0)
theorem ox_ (x : Int) (m : Nat) : ∀ v ∈ List.replicate m (Value.int .i64 x), v.oneCell' = true := by
 intro v hv
 rw [(List.mem_replicate.1 hv).2]; rfl
theorem qo_ {cur : List Value} {x : Int} {k cap : Nat} (h : cur.take 6 = repL x k ∧ cur.length = cap) (hk : k ≤ 6 := by decide) : 6 ≤ cur.length := by
 have := congrArg List.length h.1
 simp only [repL, List.length_take, List.length_append, List.length_replicate] at this
 omega
theorem px_ {w : World} {g t k cap : Nat} {cur : List Value} {x : Int} (hg : w.heap[g]? = some (.cells cur.toArray t (0, 0))) (h : cur.take 6 = repL x k ∧ cur.length = cap) (m : Nat) (hm : m ≤ k ∧ k ≤ 6) : ∀ j v, (List.replicate m (Value.int .i64 x))[j]? = some v → w.cell? ((⟨g, 0, none⟩ : Addr).add j) = some v := by
 intro j v hv
 have hj : j < m := by
  rcases Nat.lt_or_ge j m with h | h
  ·exact h
  ·rw [List.getElem?_eq_none (by simpa using h)] at hv; cases hv
 have h1 : (cur.take 6)[j]? = some (.int .i64 x) := by
  rw [h.1, repL, List.getElem?_append_left (by simp; omega)]
  simp [List.getElem?_replicate]; omega
 rw [List.getElem?_take, if_pos Qa] at h1
 have h2 : v = .int .i64 x := by
  rw [List.getElem?_replicate, if_pos hj] at hv; exact (Option.some.inj hv).symm
 have h3 := cell_of_row w g j cur.toArray t (0, 0) hg
 rw [show ((⟨g, 0, none⟩ : Addr).add j) = ⟨g, j, none⟩ from by simp [Addr.add] <;> omega, h3, h2]
 simpa using h1
theorem to_ {cur L : List Value} (h : cur.take 6 = L) : cur = L ++ cur.drop 6 := by rw [← h, List.take_append_drop]
theorem ce1_ {cur : List Value} {x : Int} (h : cur.take 6 = repL x 1) : (splice cur 1 (List.replicate 1 (.int .i64 x))).take 6 = repL x 2 := by
 rw [to_ h]; rfl
theorem de1_ {cur : List Value} {x : Int} (h : cur.take 6 = repL x 2) : (splice cur 2 (List.replicate 2 (.int .i64 x))).take 6 = repL x 4 := by
 rw [to_ h]; rfl
theorem ee1_ {cur : List Value} {x : Int} (h : cur.take 6 = repL x 4) : (splice cur 4 (List.replicate 2 (.int .i64 x))).take 6 = repL x 6 := by
 rw [to_ h]; rfl
theorem xa1_ {w : World} {base g t cap : Nat} {cur : List Value} {x : Int} (hg : w.heap[g]? = some (.cells cur.toArray t (0, 0))) (h : cur.take 6 = repL x 6 ∧ cur.length = cap) (hcap : 6 ≤ cap) (hmax : cap ≤ maxLen) (hb : base ≤ g) :
  Kd.R (Kd.int .i64) t w base (fun _ => True) (.slice (some ⟨g, 0, none⟩) 6 cap) (List.replicate 6 x) := by
 refine Kd.lp_ ?_ (fun _ _ => trivial)
 refine ⟨by simp [encs], .inr ⟨g, cap, cur.toArray, Qj, hb, hg, ?_, ?_, ?_, ?_⟩⟩
 all_goals first | omega | exact hmax | (simp; omega; done) | (simp; omega) | exact h.1 | (rw [h.1]; rfl) | skip
set_option maxHeartbeats 4000000 in
set_option maxRecDepth 100000 in
theorem qx_ (A0 : Option Addr) (c : Nat) (x : Int) (w : World) (hr : Kd.C (Kd.int .i64) w A0 1 [x]) (hc : 1 ≤ c) :
  Calls Tryz.prog 67 #[.slice A0 1 c, .int .i64 6] w fun e w' => ∃ v : Value, e = .returned v ∧ Kd.R (Kd.int .i64) 3 w' w.heap.size (fun _ => True) v (List.replicate 6 x) ∧ Below w.heap.size w w' := by
 have HR := Lib.hid hr
 clear hr
 have hm := @Go.Proofs.YtpkhgapifnjbeaaGreatDoor.K.lt_.calls 1 6 0 6
 have HM := Lib.hid hm
 clear hm
 go_enter Tryz.func67, Tryz.ntmps67
 go_wp2_with (first | ((with_reducible refine va_ (f := 71) rfl ?_); refine lc_ (some 18) rfl rfl Tryz.func71 Qb rfl #[.int .u64 1, .int .u64 6] rfl X5 ?_; (with_reducible refine (HM.out _ (by decide +kernel)).mono ?_); rintro e w' ⟨rfl, ⟨nd, rfl⟩⟩; refine ⟨_, rfl, ?_⟩) | ((with_reducible refine ld_ (N := 30) rfl ?_); refine Kd.bq_ (Kd.int .i64) w.heap.size 3 rfl (N := 30) rfl 22 _ _ rfl (6 : Int) rfl rfl Tryz.underlying22 (.int .i64 0) 8 Qb rfl Qc Qa 0 (ok := fun _ => True) (okp := fun _ => True) rfl (fun _ hk => hk) trivial Qa Qa (aa_ (Below.refl _ _) nd) (Nat.le_refl _) ?_; intro v1 w1 ho hb hg_ hnew_; clear hg_ hnew_; have HO := Lib.hid ho; have HB := Lib.hid hb; clear ho hb) | ((with_reducible refine ld_ (N := 33) rfl ?_); refine Kd.R_copy (0 : Int) w.heap.size rfl _ _ 22 22 3 rfl Tryz.underlying22 Qb v1 _ [x] A0 1 c (fun _ => True) rfl rfl HO.out (Kd.re_ HR.out HB.out) HB.out (pb_ HB.out) ?_; intro w2 ho hb hg_; clear hg_; clear HB HO; have HB := Lib.hid hb; have HO := Lib.hid ho; clear ho hb))
 have ho := HO.out
 rw [show (Int.toNat 6) = 6 from rfl] at ho
 replace ho : Kd.R (Kd.int .i64) 3 w2 w.heap.size (fun _ => True) v1 [x, 0, 0, 0, 0, 0] := ho
 have hown := Kd.wn_ ho
 rcases hown.2 with ⟨_, hx0⟩ | ⟨g, cap, cur, hv, hgb, hg, hnc, hcm, hcs, htake⟩
 ·simp at hx0
 subst hv
 have HGb := Lib.hid hgb
 have HX := Lib.hid hcm
 have hcap0 : 6 ≤ cap := hnc
 have HC := Lib.hid (show ∃ cur : List Value, Hid (w2.heap[g]? = some (.cells cur.toArray 3 (0, 0))) ∧ Hid (cur.take 6 = repL x 1 ∧ cur.length = cap) from ⟨cur.toList, Lib.hid (by simpa using hg), Lib.hid ⟨by first | exact htake | (rw [htake]; rfl), by first | omega | (simp; omega)⟩⟩)
 clear ho HO hown hgb hg hnc hcm hcs htake
 go_loopw [8] (fun v wr => ∃ k : Nat, (k = 1 ∨ k = 2 ∨ k = 4 ∨ k = 6) ∧ v = .int .i64 k ∧ Hid (∃ cur : List Value, Hid (wr.heap[g]? = some (.cells cur.toArray 3 (0, 0))) ∧ Hid (cur.take 6 = repL x k ∧ cur.length = cap)) ∧ Hid (Below w.heap.size w wr)) (fun v _ => 6 - (intOf v).toNat)
 case atStart => exact ⟨1, Qc, rfl, HC, HB⟩
 case round =>
  clear HC HB
  obtain ⟨k, hk, rfl, HC, HB⟩ := hrel
  obtain ⟨w3, rfl⟩ : ∃ x : World, x = wr := ⟨_, rfl⟩
  rcases hk with rfl | rfl | rfl | rfl
  ·obtain ⟨cur, HG, HL⟩ := HC.out
   have hcap1 := eq_true (show (1 : Int) ≤ (cap : Int) from by omega)
   have hcap2 := eq_false (show ¬ cap = 1 from by omega)
   go_wp2
   refine ei_ (n := 10) (S := fun w' => True) (ds := []) Qak Qb rfl rfl (trivial) (fun hHeld => ?_)
   have HD := Lib.hid (ca_ HB.out)
   refine qc_ (i := 0) (N := some 38) (v := ?_) (a' := ?_) Qal rfl rfl Qb Qe (Or.inl ⟨by rfl, ?_⟩) ?_ ?_
   rotate_left
   ·exact Qg
   rotate_left
   ·exact Qd
   refine qc_ (i := 1) (N := some 39) (v := ?_) (a' := ?_) Qam rfl rfl Qb Qe (Or.inl ⟨by rfl, ?_⟩) ?_ ?_
   rotate_left
   ·exact Qg
   rotate_left
   ·exact Qd
   refine qc_ (i := 2) (N := some 40) (v := ?_) (a' := ?_) Qan rfl rfl Qb Qe (Or.inl ⟨by rfl, ?_⟩) ?_ ?_
   rotate_left
   ·exact Qg
   rotate_left
   ·exact Qd
   refine qc_ (i := 3) (N := some 41) (v := ?_) (a' := ?_) Qao rfl rfl Qb Qe (Or.inl ⟨by rfl, ?_⟩) ?_ ?_
   rotate_left
   ·exact Qg
   rotate_left
   ·exact Qd
   refine qc_ (i := 4) (N := some 42) (v := ?_) (a' := ?_) Qap rfl rfl Qb Qe (Or.inl ⟨by rfl, ?_⟩) ?_ ?_
   rotate_left
   ·exact Qg
   rotate_left
   ·exact Qd
   refine qc_ (i := 5) (N := some 43) (v := ?_) (a' := ?_) Qaq rfl rfl Qb Qe (Or.inl ⟨by rfl, ?_⟩) ?_ ?_
   rotate_left
   ·exact Qg
   rotate_left
   ·exact Qd
   refine qc_ (i := 6) (N := some 44) (v := ?_) (a' := ?_) Qar rfl rfl Qb Qe (Or.inl ⟨by rfl, ?_⟩) ?_ ?_
   rotate_left
   ·exact Qg
   rotate_left
   ·exact Qd
   refine one_ (i := 7) (N := some 45) Qas rfl rfl Qb Qc (fun K hK => ?_)
   refine step_copy_splice rfl (.tmp 41) (.tmp 44) 22 22 rfl 3 Tryz.underlying22 Qb (some ⟨g, 1, none⟩) (some ⟨g, 0, none⟩) _ _ _ _ rfl rfl g 1 cur 3 HG.out (List.replicate 1 (.int .i64 x)) (by rw [List.length_replicate]; rfl) (fun _ => ⟨rfl, _, rfl, px_ HG.out HL.out 1 Qc⟩) X6 (ox_ x 1) w.heap.size w HD.out HGb.out ?_
   intro w4 hg4 hb4
   refine hK.out _ _ (trivial) (fun hHeld => ?_)
   clear hK K
   refine ug_ (a' := ?_) ?_ ?_
   rotate_left
   ·exact Yw
   refine qc_ (i := 8) (N := some 46) (v := ?_) (a' := ?_) Qat rfl rfl Qb Qe (Or.inl ⟨by rfl, ?_⟩) ?_ ?_
   rotate_left
   ·exact Qg
   rotate_left
   ·exact Qd
   refine qc_ (i := 9) (N := some 8) (v := ?_) (a' := ?_) Qau rfl rfl Qb Qe (Or.inl ⟨by rfl, ?_⟩) ?_ ?_
   rotate_left
   ·exact Qg
   rotate_left
   ·exact Qd
   refine yk_ Qb ?_
   have HB4 := Lib.hid hb4
   have HC4 := Lib.hid (show ∃ cur : List Value, Hid (w4.heap[g]? = some (.cells cur.toArray 3 (0, 0))) ∧ Hid (cur.take 6 = repL x 2 ∧ cur.length = cap) from ⟨_, hg4, Lib.hid ⟨ce1_ HL.out.1, by rw [length_splice _ _ _ X6]; exact HL.out.2⟩⟩)
   clear hb4 hg4
   go_wp2
   go_roundw
   case rel => exact ⟨2, Qc, by first | rfl | go_num | (simp [wrap64]; done), HC4, HB4⟩
   case measure => simp [intOf, wrap64]
  ·obtain ⟨cur, HG, HL⟩ := HC.out
   have hcap1 := eq_true (show (2 : Int) ≤ (cap : Int) from by omega)
   have hcap2 := eq_false (show ¬ cap = 2 from by omega)
   go_wp2
   refine ei_ (n := 10) (S := fun w' => True) (ds := []) Qak Qb rfl rfl (trivial) (fun hHeld => ?_)
   have HD := Lib.hid (ca_ HB.out)
   refine qc_ (i := 0) (N := some 38) (v := ?_) (a' := ?_) Qal rfl rfl Qb Qe (Or.inl ⟨by rfl, ?_⟩) ?_ ?_
   rotate_left
   ·exact Qg
   rotate_left
   ·exact Qd
   refine qc_ (i := 1) (N := some 39) (v := ?_) (a' := ?_) Qam rfl rfl Qb Qe (Or.inl ⟨by rfl, ?_⟩) ?_ ?_
   rotate_left
   ·exact Qg
   rotate_left
   ·exact Qd
   refine qc_ (i := 2) (N := some 40) (v := ?_) (a' := ?_) Qan rfl rfl Qb Qe (Or.inl ⟨by rfl, ?_⟩) ?_ ?_
   rotate_left
   ·exact Qg
   rotate_left
   ·exact Qd
   refine qc_ (i := 3) (N := some 41) (v := ?_) (a' := ?_) Qao rfl rfl Qb Qe (Or.inl ⟨by rfl, ?_⟩) ?_ ?_
   rotate_left
   ·exact Qg
   rotate_left
   ·exact Qd
   refine qc_ (i := 4) (N := some 42) (v := ?_) (a' := ?_) Qap rfl rfl Qb Qe (Or.inl ⟨by rfl, ?_⟩) ?_ ?_
   rotate_left
   ·exact Qg
   rotate_left
   ·exact Qd
   refine qc_ (i := 5) (N := some 43) (v := ?_) (a' := ?_) Qaq rfl rfl Qb Qe (Or.inl ⟨by rfl, ?_⟩) ?_ ?_
   rotate_left
   ·exact Qg
   rotate_left
   ·exact Qd
   refine qc_ (i := 6) (N := some 44) (v := ?_) (a' := ?_) Qar rfl rfl Qb Qe (Or.inl ⟨by rfl, ?_⟩) ?_ ?_
   rotate_left
   ·exact Qg
   rotate_left
   ·exact Qd
   refine one_ (i := 7) (N := some 45) Qas rfl rfl Qb Qc (fun K hK => ?_)
   refine step_copy_splice rfl (.tmp 41) (.tmp 44) 22 22 rfl 3 Tryz.underlying22 Qb (some ⟨g, 2, none⟩) (some ⟨g, 0, none⟩) _ _ _ _ rfl rfl g 2 cur 3 HG.out (List.replicate 2 (.int .i64 x)) (by rw [List.length_replicate]; rfl) (fun _ => ⟨rfl, _, rfl, px_ HG.out HL.out 2 Qc⟩) X6 (ox_ x 2) w.heap.size w HD.out HGb.out ?_
   intro w4 hg4 hb4
   refine hK.out _ _ (trivial) (fun hHeld => ?_)
   clear hK K
   refine ug_ (a' := ?_) ?_ ?_
   rotate_left
   ·exact Yw
   refine qc_ (i := 8) (N := some 46) (v := ?_) (a' := ?_) Qat rfl rfl Qb Qe (Or.inl ⟨by rfl, ?_⟩) ?_ ?_
   rotate_left
   ·exact Qg
   rotate_left
   ·exact Qd
   refine qc_ (i := 9) (N := some 8) (v := ?_) (a' := ?_) Qau rfl rfl Qb Qe (Or.inl ⟨by rfl, ?_⟩) ?_ ?_
   rotate_left
   ·exact Qg
   rotate_left
   ·exact Qd
   refine yk_ Qb ?_
   have HB4 := Lib.hid hb4
   have HC4 := Lib.hid (show ∃ cur : List Value, Hid (w4.heap[g]? = some (.cells cur.toArray 3 (0, 0))) ∧ Hid (cur.take 6 = repL x 4 ∧ cur.length = cap) from ⟨_, hg4, Lib.hid ⟨de1_ HL.out.1, by rw [length_splice _ _ _ X6]; exact HL.out.2⟩⟩)
   clear hb4 hg4
   go_wp2
   go_roundw
   case rel => exact ⟨4, Qc, by first | rfl | go_num | (simp [wrap64]; done), HC4, HB4⟩
   case measure => simp [intOf, wrap64]
  ·obtain ⟨cur, HG, HL⟩ := HC.out
   have hcap1 := eq_true (show (4 : Int) ≤ (cap : Int) from by omega)
   have hcap2 := eq_false (show ¬ cap = 4 from by omega)
   go_wp2
   refine ei_ (n := 10) (S := fun w' => True) (ds := []) Qak Qb rfl rfl (trivial) (fun hHeld => ?_)
   have HD := Lib.hid (ca_ HB.out)
   refine qc_ (i := 0) (N := some 38) (v := ?_) (a' := ?_) Qal rfl rfl Qb Qe (Or.inl ⟨by rfl, ?_⟩) ?_ ?_
   rotate_left
   ·exact Qg
   rotate_left
   ·exact Qd
   refine qc_ (i := 1) (N := some 39) (v := ?_) (a' := ?_) Qam rfl rfl Qb Qe (Or.inl ⟨by rfl, ?_⟩) ?_ ?_
   rotate_left
   ·exact Qg
   rotate_left
   ·exact Qd
   refine qc_ (i := 2) (N := some 40) (v := ?_) (a' := ?_) Qan rfl rfl Qb Qe (Or.inl ⟨by rfl, ?_⟩) ?_ ?_
   rotate_left
   ·exact Qg
   rotate_left
   ·exact Qd
   refine qc_ (i := 3) (N := some 41) (v := ?_) (a' := ?_) Qao rfl rfl Qb Qe (Or.inl ⟨by rfl, ?_⟩) ?_ ?_
   rotate_left
   ·exact Qg
   rotate_left
   ·exact Qd
   refine qc_ (i := 4) (N := some 42) (v := ?_) (a' := ?_) Qap rfl rfl Qb Qe (Or.inl ⟨by rfl, ?_⟩) ?_ ?_
   rotate_left
   ·exact Qg
   rotate_left
   ·exact Qd
   refine qc_ (i := 5) (N := some 43) (v := ?_) (a' := ?_) Qaq rfl rfl Qb Qe (Or.inl ⟨by rfl, ?_⟩) ?_ ?_
   rotate_left
   ·exact Qg
   rotate_left
   ·exact Qd
   refine qc_ (i := 6) (N := some 44) (v := ?_) (a' := ?_) Qar rfl rfl Qb Qe (Or.inl ⟨by rfl, ?_⟩) ?_ ?_
   rotate_left
   ·exact Qg
   rotate_left
   ·exact Qd
   refine one_ (i := 7) (N := some 45) Qas rfl rfl Qb Qc (fun K hK => ?_)
   refine step_copy_splice rfl (.tmp 41) (.tmp 44) 22 22 rfl 3 Tryz.underlying22 Qb (some ⟨g, 4, none⟩) (some ⟨g, 0, none⟩) _ _ _ _ rfl rfl g 4 cur 3 HG.out (List.replicate 2 (.int .i64 x)) (by rw [List.length_replicate]; rfl) (fun _ => ⟨rfl, _, rfl, px_ HG.out HL.out 2 Qc⟩) X6 (ox_ x 2) w.heap.size w HD.out HGb.out ?_
   intro w4 hg4 hb4
   refine hK.out _ _ (trivial) (fun hHeld => ?_)
   clear hK K
   refine ug_ (a' := ?_) ?_ ?_
   rotate_left
   ·exact Yw
   refine qc_ (i := 8) (N := some 46) (v := ?_) (a' := ?_) Qat rfl rfl Qb Qe (Or.inl ⟨by rfl, ?_⟩) ?_ ?_
   rotate_left
   ·exact Qg
   rotate_left
   ·exact Qd
   refine qc_ (i := 9) (N := some 8) (v := ?_) (a' := ?_) Qau rfl rfl Qb Qe (Or.inl ⟨by rfl, ?_⟩) ?_ ?_
   rotate_left
   ·exact Qg
   rotate_left
   ·exact Qd
   refine yk_ Qb ?_
   have HB4 := Lib.hid hb4
   have HC4 := Lib.hid (show ∃ cur : List Value, Hid (w4.heap[g]? = some (.cells cur.toArray 3 (0, 0))) ∧ Hid (cur.take 6 = repL x 6 ∧ cur.length = cap) from ⟨_, hg4, Lib.hid ⟨ee1_ HL.out.1, by rw [length_splice _ _ _ X6]; exact HL.out.2⟩⟩)
   clear hb4 hg4
   go_wp2
   go_roundw
   case rel => exact ⟨6, Qc, by first | rfl | go_num | (simp [wrap64]; done), HC4, HB4⟩
   case measure => simp [intOf, wrap64]
  obtain ⟨cur, HG, HL⟩ := HC.out
  go_wp2
  go_ret
  exact ⟨_, rfl, xa1_ HG.out HL.out hcap0 HX.out HGb.out, HB.out⟩
end Go.Proofs.YtpkhgapifnjbeaaGreatDoor.G
end
section
namespace Go.Proofs.YtpkhgapifnjbeaaGreatDoor.G
open RowKit Zw.PrintWords Zw.PrintLast Zw.PrintMore Rs
def fk_.f (l ps : List Int) : Option (List Int) := Go.Proofs.YtpkhgapifnjbeaaGreatDoor.F.fc_.f 400 l ps
theorem fk_.zb1_ (A0 : Option Addr) (c0 : Nat) (l0 : List Int) (A1 : Option Addr) (c1 : Nat) (l1 : List Int) (r : List Int) (w : World) (hr0 : Kd.C (Kd.int .i64) w A0 l0.length l0) (hc0 : l0.length ≤ c0) (hr1 : Kd.C (Kd.int .i64) w A1 l1.length l1) (hc1 : l1.length ≤ c1) (h : fk_.f l0 l1 = some r) :
  Calls Tryz.prog 69 #[.slice A0 l0.length c0, .slice A1 l1.length c1] w fun e w' => ∃ v0_ : Value, e = .returned (v0_) ∧ Kd.R (Kd.int .i64) 3 w' w.heap.size (fun _ => True) v0_ r ∧ Below w.heap.size w w' ∧ (l0 ≠ [] → r = [] → v0_ = .slice none 0 0) :=
 Go.Proofs.YtpkhgapifnjbeaaGreatDoor.F.fc_.calls 400 A0 c0 l0 A1 c1 l1 r w hr0 hc0 hr1 hc1 h
theorem fk_.calls (A0 : Option Addr) (c0 : Nat) (l0 : List Int) (A1 : Option Addr) (c1 : Nat) (l1 : List Int) (r : List Int) (w : World) (hr0 : Kd.C (Kd.int .i64) w A0 l0.length l0) (hc0 : l0.length ≤ c0) (hr1 : Kd.C (Kd.int .i64) w A1 l1.length l1) (hc1 : l1.length ≤ c1) (h : fk_.f l0 l1 = some r) :
  Calls Tryz.prog 69 #[.slice A0 l0.length c0, .slice A1 l1.length c1] w fun e w' => ∃ v0_ : Value, e = .returned (v0_) ∧ Kd.R (Kd.int .i64) 3 w' w.heap.size (fun _ => True) v0_ r ∧ Below w.heap.size w w' :=
 (fk_.zb1_ A0 c0 l0 A1 c1 l1 r w hr0 hc0 hr1 hc1 h).mono fun e w' ⟨v, h1, h2, h3, _⟩ => ⟨v, h1, h2, h3⟩
def ax_.f (l ps : List Int) (n : Int) : Option (List Int × Bool) := Go.Proofs.YtpkhgapifnjbeaaGreatDoor.L.pa_.f 2000 l ps n
theorem ax_.calls (A0 : Option Addr) (c0 : Nat) (l0 : List Int) (A1 : Option Addr) (c1 : Nat) (l1 : List Int) (a2 : Int) (r1 : List Int) (r2 : Bool) (w : World) (hr0 : Kd.C (Kd.int .i64) w A0 l0.length l0) (hc0 : l0.length ≤ c0) (hr1 : Kd.C (Kd.int .i64) w A1 l1.length l1) (hc1 : l1.length ≤ c1) (h : ax_.f l0 l1 a2 = some (r1, r2)) :
  Calls Tryz.prog 81 #[.slice A0 l0.length c0, .slice A1 l1.length c1, .int .i64 a2] w fun e w' => ∃ v0_ : Value, e = .returned (.tuple #[v0_, .bool r2]) ∧ Kd.R (Kd.int .i64) 3 w' w.heap.size (fun _ => True) v0_ r1 ∧ Below w.heap.size w w' :=
 Go.Proofs.YtpkhgapifnjbeaaGreatDoor.L.pa_.calls 2000 A0 c0 l0 A1 c1 l1 a2 r1 r2 w hr0 hc0 hr1 hc1 h
theorem wm_ (A0 : Option Addr) (c0 : Nat) (l0 : List Int) (A1 : Option Addr) (c1 : Nat) (l1 : List Int) (w : World)
  (hr0 : Kd.C (Kd.int .i64) w A0 l0.length l0) (hc0 : l0.length ≤ c0) (hr1 : Kd.C (Kd.int .i64) w A1 l1.length l1) (hc1 : l1.length ≤ c1) (hl : l0.length + l1.length ≤ 500) :
  Calls Tryz.prog 66 #[.slice (some ⟨w.heap.size, 0, none⟩) 2 2] (w.alloc (.cells #[.slice A0 l0.length c0, .slice A1 l1.length c1] 22)) fun e w' => ∃ v : Value, e = .returned v ∧ Kd.R (Kd.int .i64) 3 w' w.heap.size (fun _ => True) v (l0 ++ l1) ∧ Below w.heap.size w w' := by
 have hb := da_ (Below.refl w.heap.size w) (.cells #[.slice A0 l0.length c0, .slice A1 l1.length c1] 22)
 have hg := heap_alloc_new w (.cells #[.slice A0 l0.length c0, .slice A1 l1.length c1] 22)
 refine (pw_ w.heap.size 2 A0 c0 l0 A1 c1 l1 _ ?_ ?_ (Kd.re_ hr0 hb) hc0 (Kd.re_ hr1 hb) hc1 Qa Qa).mono ?_
 ·rw [cell_of_row _ _ 0 _ _ (0, 0) hg]; rfl
 ·rw [cell_of_row _ _ 1 _ _ (0, 0) hg]; rfl
 rintro e w' ⟨v, he, hR, hB⟩
 exact ⟨v, he, Kd.xd_ hR (pb_ hb), hb_ hb hB⟩
def bv_.f (l : List Int) : Option (List Int) := if l.length ≤ 400 then some (l ++ List.replicate 6 (-1)) else none
theorem bv_.some {l t : List Int} (h : bv_.f l = some t) : t = l ++ List.replicate 6 (-1) ∧ l.length ≤ 400 := by
 unfold bv_.f at h
 by_cases hl : l.length ≤ 400
 ·exact Qaj
 ·exact Yh
def rq_.f (a b : List Int) : Option (List Int) := if a.length + b.length ≤ 400 then some (a ++ b) else none
theorem rq_.some {a b t : List Int} (h : rq_.f a b = some t) : t = a ++ b ∧ a.length + b.length ≤ 400 := by
 unfold rq_.f at h
 by_cases hl : a.length + b.length ≤ 400
 ·exact Qaj
 ·exact Yh
theorem ha1_ {e base n c : Nat} {ok : Nat → Prop} {w : World} {A : Option Addr} {xs : List Int} (h : Kd.R (Kd.int .i64) e w base ok (.slice A n c) xs) (hn : 0 < xs.length) : ∃ g, A = some g := by
 obtain ⟨g, cap, he, _⟩ := Kd.zi_ h hn
 injection he with h1 _ _
 exact ⟨_, h1⟩
theorem fl1_ {l : List Int} {a : Int} (h : di_.f l a = some true) : l ≠ [] := by
 rintro rfl
 unfold di_.f at h
 simp at h
end Go.Proofs.YtpkhgapifnjbeaaGreatDoor.G
end
section
namespace Go.Proofs.YtpkhgapifnjbeaaGreatDoor.G
open RowKit Rs
theorem vand (n : Nat) : ∀ (x y : Nat → GF) (s : Nat), (∀ i, i < n → x i ≠ 0) → (∀ i j, i < n → j < n → x i = x j → i = j) → (∀ j, j < n → gsum n (fun i => y i * GF.pw (x i) (s + j)) = 0) → ∀ i, i < n → y i = 0 := by
 induction n with
 | zero => intro x y s _ _ _ i hi; omega
 | succ n ih =>
  intro x y s h0 hd he
  have key : ∀ i, i < n → y i * (x i + x n) = 0 := by
   refine ih x (fun i => y i * (x i + x n)) s (fun i hi => h0 i Qa) (fun i j hi hj => hd i j Qa Qa) fun j hj => ?_
   have e1 := he (j + 1) Qa
   have e0 := he j Qa
   simp only [gsum] at e1 e0
   have hF : gsum n (fun i => y i * (x i + x n) * GF.pw (x i) (s + j)) = gsum n (fun i => y i * GF.pw (x i) (s + (j + 1))) + x n * gsum n (fun i => y i * GF.pw (x i) (s + j)) := by
    rw [← ji_, ← jl_]
    refine id_ fun i hi => ?_
    rw [show s + (j + 1) = (s + j) + 1 from rfl]
    show y i * (x i + x n) * GF.pw (x i) (s + j) = y i * (GF.pw (x i) (s + j) * x i) + x n * (y i * GF.pw (x i) (s + j))
    rw [GF.mul_add, GF.add_mul]
    congr 1 <;> ac_rfl
   have hn : y n * GF.pw (x n) (s + (j + 1)) = x n * (y n * GF.pw (x n) (s + j)) := by
    show y n * (GF.pw (x n) (s + j) * x n) = _
    ac_rfl
   have e1' := GF.aj_ e1
   have e0' := GF.aj_ e0
   show gsum n (fun i => y i * (x i + x n) * GF.pw (x i) (s + j)) = 0
   rw [hF, e1', e0', hn, GF.gi_]
  have hz : ∀ i, i < n → y i = 0 := fun i hi => (GF.mul_eq_zero _ _ (key i hi)).elim id fun h => absurd (hd i n Qa Qa (GF.aj_ h)) Qa
  intro i hi
  rcases Nat.lt_or_ge i n with h | h
  ·exact hz i h
  obtain rfl : i = n := by omega
  have e0 := he 0 Qa
  simp only [gsum] at e0
  rw [id_ (g := fun _ => 0) (fun k hk => by rw [hz k hk, GF.zero_mul]), cj_, GF.zero_add] at e0
  exact (GF.mul_eq_zero _ _ e0).elim id fun h => absurd h (GF.oo_ (h0 i hi) _)
def ElM (R C : Nat) (M : Nat → Nat → Int) : Prop := ∀ i k, i < R → k < C → isEl (M i k) = true
def KerM (R C : Nat) (M : Nat → Nat → Int) (x : Nat → GF) : Prop := ∀ i, i < R → gsum C (fun k => toG (M i k) * x k) = 0
def dl (i k : Nat) : Int := if i = k then 1 else 0
def IdM (R c : Nat) (M : Nat → Nat → Int) : Prop := ∀ i k, i < R → k < c → M i k = dl i k
theorem oz_ {a b : Int} (ha : isEl a = true) (hb : isEl b = true) : toG (mulI a b) = toG a * toG b := by rw [xt_ ha hb, th_]
theorem dh1_ {a b : Int} (ha : isEl a = true) (hb : isEl b = true) : toG (xorI a b) = toG a + toG b := by rw [wx_ ha hb, th_]
theorem ch1_ {a : Int} (ha : isEl a = true) : toG (invI a) = GF.inv (toG a) := by
 unfold invI; rw [if_pos ha, th_]
theorem ir_ {a : Int} (ha : isEl a = true) : toG a = 0 ↔ a = 0 := by
 refine ⟨fun h => ?_, fun h => by rw [h]; rfl⟩
 rw [← bi_ ((le_ a).1 ha).1 ((le_ a).1 ha).2, h]; rfl
theorem ns_ (M : Nat → Nat → Int) (c R : Nat) : (pivot M c R = R ∧ ∀ i, c ≤ i → i < R → M i c = 0) ∨ (c ≤ pivot M c R ∧ pivot M c R < R ∧ M (pivot M c R) c ≠ 0) := by
 unfold pivot
 cases h : (List.range R).find? (fun i => decide (c ≤ i) && decide (M i c ≠ 0)) with
 | none =>
  refine .inl ⟨rfl, fun i h1 h2 => ?_⟩
  rw [List.find?_range_eq_none] at h
  have := h i h2
  simpa [h1] using this
 | some p =>
  rw [List.find?_range_eq_some] at h
  refine .inr ?_
  simp only [Bool.and_eq_true, decide_eq_true_eq, List.mem_range] at h
  exact ⟨h.1.1, h.2.1, h.1.2⟩
theorem lz_ {R : Nat} (M : Nat → Nat → Int) (a b : Nat) (ha : a < R) (hb : b < R) (i : Nat) (hi : i < R) : ∃ j, j < R ∧ xg_ M a b i = M j := by
 unfold xg_
 by_cases h1 : i = a
 ·exact ⟨b, hb, by rw [if_pos h1]⟩
 rw [if_neg h1]
 by_cases h2 : i = b
 ·exact ⟨a, ha, by rw [if_pos h2]⟩
 ·exact ⟨i, hi, by rw [if_neg h2]⟩
theorem yg1_ {R : Nat} (M : Nat → Nat → Int) (a b : Nat) (ha : a < R) (hb : b < R) (j : Nat) (hj : j < R) : ∃ i, i < R ∧ xg_ M a b i = M j := by
 by_cases h1 : j = a
 ·exact ⟨b, hb, by unfold xg_; by_cases h : b = a <;> simp [h1, h]⟩
 by_cases h2 : j = b
 ·exact ⟨a, ha, by simp [xg_, h2]⟩
 ·exact ⟨j, hj, by simp [xg_, h1, h2]⟩
section
variable {R C : Nat} {M : Nat → Nat → Int}
theorem ElM.swap (h : ElM R C M) {a b : Nat} (ha : a < R) (hb : b < R) : ElM R C (xg_ M a b) := fun i k hi hk => by
 obtain ⟨j, hj, e⟩ := lz_ M a b ha hb i hi
 rw [e]; exact h j k hj hk
theorem yf1_ {a b : Nat} (ha : a < R) (hb : b < R) (x : Nat → GF) : KerM R C (xg_ M a b) x ↔ KerM R C M x := by
 refine ⟨fun h j hj => ?_, fun h i hi => ?_⟩
 ·obtain ⟨i, hi, e⟩ := yg1_ M a b ha hb j hj
  have := h i hi
  rwa [e] at this
 obtain ⟨j, hj, e⟩ := lz_ M a b ha hb i hi
 rw [e]; exact h j hj
theorem ElM.scale (h : ElM R C M) {c : Nat} {b : Int} : ElM R C (fl_ M c b) := fun i k hi hk => by
 unfold fl_; split
 ·exact zl_ _ _
 ·exact h i k hi hk
theorem jd1_ (h : ElM R C M) {c : Nat} {b : Int} (hb : isEl b = true) (hb0 : toG b ≠ 0) (x : Nat → GF) : KerM R C (fl_ M c b) x ↔ KerM R C M x := by
 have e : ∀ i, i < R → gsum C (fun k => toG (fl_ M c b i k) * x k) = (if i = c then toG b else 1) * gsum C (fun k => toG (M i k) * x k) := by
  intro i hi
  rw [← ji_]
  refine id_ fun k hk => ?_
  unfold fl_
  by_cases hc : i = c
  ·rw [if_pos hc, if_pos hc, oz_ (h i k hi hk) hb]; ac_rfl
  ·rw [if_neg hc, if_neg hc, GF.one_mul]
 refine ⟨fun hk i hi => ?_, fun hk i hi => ?_⟩
 ·have := hk i hi
  rw [e i hi] at this
  refine (GF.mul_eq_zero _ _ this).elim (fun h1 => ?_) id
  by_cases hc : i = c
  ·rw [if_pos hc] at h1; exact absurd h1 hb0
  ·rw [if_neg hc] at h1; exact absurd h1 GF.one_ne_zero
 ·rw [e i hi, hk i hi, GF.mul_zero]
theorem tw_ (h : ElM R C M) {c : Nat} (hc : c < R) (hcC : c < C) (i k : Nat) (hi : i < R) (hk : k < C) : isEl (ko_ M c i k) = true ∧ toG (ko_ M c i k) = toG (M i k) + (if i = c then 0 else toG (M i c)) * toG (M c k) := by
 unfold ko_
 by_cases h1 : i ≠ c ∧ M i c ≠ 0
 ·rw [if_pos h1, if_neg h1.1]
  refine ⟨gv_ (h i k hi hk) (zl_ _ _), ?_⟩
  rw [dh1_ (h i k hi hk) (zl_ _ _), oz_ (h i c hi hcC) (h c k hc hk)]
 rw [if_neg h1]
 refine ⟨h i k hi hk, ?_⟩
 by_cases h2 : i = c
 ·rw [if_pos h2, GF.zero_mul, GF.add_zero]
 have h3 : M i c = 0 := Classical.byContradiction fun h3 => h1 ⟨h2, h3⟩
 rw [if_neg h2, h3, show toG 0 = 0 from rfl, GF.zero_mul, GF.add_zero]
theorem xf1_ (h : ElM R C M) {c : Nat} (hc : c < R) (hcC : c < C) (x : Nat → GF) : KerM R C (ko_ M c) x ↔ KerM R C M x := by
 have e : ∀ i, i < R → gsum C (fun k => toG (ko_ M c i k) * x k) = gsum C (fun k => toG (M i k) * x k) + (if i = c then 0 else toG (M i c)) * gsum C (fun k => toG (M c k) * x k) := by
  intro i hi
  rw [← ji_, ← jl_]
  refine id_ fun k hk => ?_
  rw [(tw_ h hc hcC i k hi hk).2, GF.add_mul]
  congr 1
  ac_rfl
 refine ⟨fun hk => ?_, fun hk i hi => by rw [e i hi, hk i hi, hk c hc, GF.mul_zero, GF.add_zero]⟩
 have hc0 : gsum C (fun k => toG (M c k) * x k) = 0 := by
  have := hk c hc
  rwa [e c hc, if_pos rfl, GF.zero_mul, GF.add_zero] at this
 intro i hi
 have := hk i hi
 rwa [e i hi, hc0, GF.mul_zero, GF.add_zero] at this
theorem step_ok (h : ElM R C M) {c p : Nat} (hcp : c ≤ p) (hp : p < R) (hcC : c < C) (hz : M p c ≠ 0) (hI : IdM R c M) :
  ElM R C (ur_ M c p) ∧ (∀ x, KerM R C (ur_ M c p) x ↔ KerM R C M x) ∧ IdM R (c + 1) (ur_ M c p) := by
 have hcR : c < R := by omega
 have h1 := h.swap hcR hp
 obtain ⟨M1, hM1⟩ : ∃ M1, M1 = xg_ M c p := ⟨_, rfl⟩
 have hcc : M1 c c = M p c := by rw [hM1]; simp [xg_]
 have hk1 := yf1_ (C := C) (M := M) hcR hp
 have hI1 : IdM R c M1 := by
  intro i k hi hk
  rw [hM1]
  unfold xg_ dl
  by_cases e1 : i = c
  ·rw [if_pos e1, hI p k hp hk]; unfold dl; rw [if_neg Qa, if_neg Qa]
  rw [if_neg e1]
  by_cases e2 : i = p
  ·rw [if_pos e2, hI c k hcR hk]; unfold dl; rw [if_neg Qa, if_neg Qa]
  ·rw [if_neg e2]; exact hI i k hi hk
 rw [← hM1] at h1 hk1
 have hb0 : toG (M1 c c) ≠ 0 := fun e => hz (by rw [← hcc]; exact (ir_ (h1 c c hcR hcC)).1 e)
 have hbe : isEl (invI (M1 c c)) = true := ed1_ _
 have hbi := ch1_ (h1 c c hcR hcC)
 have hmi : toG (M1 c c) * toG (invI (M1 c c)) = 1 := by rw [hbi]; exact GF.qd1_ _ hb0
 have hb1 : toG (invI (M1 c c)) ≠ 0 := fun e => by rw [e, GF.mul_zero] at hmi; exact GF.one_ne_zero hmi.symm
 have h2 := h1.scale (c := c) (b := invI (M1 c c))
 have hk2 := jd1_ h1 (c := c) hbe hb1
 obtain ⟨M2, hM2⟩ : ∃ M2, M2 = fl_ M1 c (invI (M1 c c)) := ⟨_, rfl⟩
 have hI2 : IdM R c M2 ∧ M2 c c = 1 := by
  constructor
  ·intro i k hi hk
   rw [hM2]; unfold fl_
   by_cases e1 : i = c
   ·rw [if_pos e1, hI1 i k hi hk, e1]; unfold dl; rw [if_neg Qa, dl_]
   ·rw [if_neg e1]; exact hI1 i k hi hk
  rw [hM2]; unfold fl_
  rw [if_pos rfl, xt_ (h1 c c hcR hcC) hbe, hmi]; rfl
 rw [← hM2] at h2 hk2
 have hs : ur_ M c p = ko_ M2 c := by unfold ur_; rw [← hM1, ← hM2]
 rw [hs]
 refine ⟨fun i k hi hk => (tw_ h2 hcR hcC i k hi hk).1, fun x => (xf1_ h2 hcR hcC x).trans ((hk2 x).trans (hk1 x)), fun i k hi hk => ?_⟩
 have he := tw_ h2 hcR hcC i k hi Qa
 rcases Nat.lt_or_ge k c with hkc | hkc
 ·have : toG (M2 c k) = 0 := by rw [hI2.1 c k hcR hkc]; unfold dl; rw [if_neg Qa]; rfl
  rw [this, GF.mul_zero, GF.add_zero] at he
  have h3 := congrArg ofG he.2
  rwa [bi_ ((le_ _).1 he.1).1 ((le_ _).1 he.1).2, bi_ ((le_ _).1 (h2 i k hi Qa)).1 ((le_ _).1 (h2 i k hi Qa)).2, hI2.1 i k hi hkc] at h3
 obtain rfl : k = c := by omega
 rw [hI2.2] at he
 have h3 := congrArg ofG he.2
 rw [bi_ ((le_ _).1 he.1).1 ((le_ _).1 he.1).2] at h3
 rw [h3]
 unfold dl
 by_cases e1 : i = k
 ·rw [if_pos e1, if_pos e1, GF.zero_mul, GF.add_zero, e1, hI2.2]; rfl
 ·rw [if_neg e1, if_neg e1, show toG 1 = 1 from rfl, GF.mul_one, GF.gi_]; rfl
theorem gj_ok (h : ElM R C M) : ∀ (c : Nat) (M' : Nat → Nat → Int), c ≤ C → gjI R M c = some M' → ElM R C M' ∧ (∀ x, KerM R C M' x ↔ KerM R C M x) ∧ IdM R c M' ∧ c ≤ R := by
 intro c
 induction c with
 | zero =>
  intro M' _ e
  obtain rfl := Option.some.inj e
  exact ⟨h, fun _ => Iff.rfl, fun _ _ _ hk => absurd hk Qa, Nat.zero_le _⟩
 | succ c ih =>
  intro M' hc e
  unfold gjI at e
  cases h1 : gjI R M c with
  | none => rw [h1] at e; cases e
  | some M1 =>
   rw [h1] at e
   obtain ⟨a1, a2, a3, _⟩ := ih M1 Qa h1
   rcases ns_ M1 c R with ⟨hp, _⟩ | ⟨hp1, hp2, hp3⟩
   ·simp only [hp, if_true] at e; cases e
   simp only at e
   rw [if_neg Qa] at e
   obtain rfl := Option.some.inj e
   obtain ⟨b1, b2, b3⟩ := step_ok a1 hp1 hp2 Qa hp3 a3
   exact ⟨b1, fun x => (b2 x).trans (a2 x), b3, Qa⟩
theorem pj1_ (h : ElM R C M) : ∀ (n : Nat), n ≤ C → gjI R M n = none → ∃ x : Nat → GF, (∃ k, k < n ∧ x k ≠ 0) ∧ (∀ k, n ≤ k → x k = 0) ∧ KerM R C M x := by
 intro n
 induction n with
 | zero => intro _ e; cases e
 | succ c ih =>
  intro hc e
  unfold gjI at e
  cases h1 : gjI R M c with
  | none =>
   obtain ⟨x, ⟨k, hk, hk0⟩, hz, hK⟩ := ih Qa h1
   exact ⟨x, ⟨k, Qa, hk0⟩, fun k hk => hz k Qa, hK⟩
  | some M1 =>
   rw [h1] at e
   obtain ⟨a1, a2, a3, a4⟩ := gj_ok h c M1 Qa h1
   rcases ns_ M1 c R with ⟨hp, hz⟩ | ⟨hp1, hp2, hp3⟩
   ·refine ⟨fun k => if k < c then toG (M1 k c) else if k = c then 1 else 0, ⟨c, Qa, ?_⟩, fun k hk => ?_, (a2 _).1 fun i hi => ?_⟩
    ·simp [GF.one_ne_zero]
    ·simp only; rw [if_neg Qa, if_neg Qa]
    ·obtain ⟨f, hf⟩ : ∃ f : Nat → GF, f = fun k => toG (M1 i k) * (if k < c then toG (M1 k c) else if k = c then 1 else 0) := ⟨_, rfl⟩
     have hbig : ∀ d, c + 1 + d ≤ C → gsum (c + 1 + d) f = gsum (c + 1) f := by
      intro d
      induction d with
      | zero => intro _; rfl
      | succ d ihd =>
       intro hd
       show gsum (c + 1 + d) f + f (c + 1 + d) = _
       rw [ihd Qa, hf]
       simp only
       rw [if_neg Qa, if_neg Qa, GF.mul_zero, GF.add_zero]
     have hC := hbig (C - (c + 1)) Qa
     rw [show c + 1 + (C - (c + 1)) = C from by omega] at hC
     rw [← hf, hC]
     simp only [gsum]
     have hfc : f c = toG (M1 i c) := by rw [hf]; simp [GF.mul_one]
     have hlow : ∀ k, k < c → f k = if i = k then toG (M1 k c) else 0 := by
      intro k hk
      rw [hf]; simp only
      rw [a3 i k hi hk, if_pos hk]
      unfold dl
      by_cases e1 : i = k
      ·rw [if_pos e1, if_pos e1, show toG 1 = 1 from rfl, GF.one_mul]
      ·rw [if_neg e1, if_neg e1, show toG 0 = 0 from rfl, GF.zero_mul]
     rw [hfc]
     rcases Nat.lt_or_ge i c with hic | hic
     ·rw [kl_ c f i hic (fun k hk hne => by rw [hlow k hk, if_neg (fun q => hne q.symm)]), hlow i hic, if_pos rfl, GF.gi_]
     ·rw [id_ (g := fun _ => 0) (fun k hk => by rw [hlow k hk, if_neg Qa]), cj_, hz i hic hi]; rfl
   simp only at e
   rw [if_neg Qa] at e
   cases e
end
end Go.Proofs.YtpkhgapifnjbeaaGreatDoor.G
end
section
namespace Go.Proofs.YtpkhgapifnjbeaaGreatDoor.G
open RowKit Zw.PrintWords Zw.PrintLast Zw.PrintMore Rs
def eg_ (n : Nat) (ps : List Int) : Prop := ps.length ≤ 6 ∧ (∀ k, k < ps.length → 0 ≤ ps.getD k 0 ∧ ps.getD k 0 < n)
def rowF (n : Nat) (ps : List Int) (j : Nat) : List Int := ps.map fun p => atI n p ((j + 1 : Nat) : Int)
def matFill (l ps : List Int) : Nat → List (List Int)
 | 0 => []
 | j + 1 => matFill l ps j ++ [rowF l.length ps j ++ [ofG (psum l (j + 1) l.length)]]
theorem af_ (l ps : List Int) (j : Nat) : (matFill l ps j).length = j := by
 induction j with
 | zero => rfl
 | succ j ih => simp [matFill, ih]
theorem ll_ (l ps : List Int) : ∀ (j x : Nat), x < j → (matFill l ps j).getD x [] = rowF l.length ps x ++ [ofG (psum l (x + 1) l.length)] := by
 intro j
 induction j with
 | zero => intro x hx; omega
 | succ j ih =>
  intro x hx
  simp only [matFill]
  rcases Nat.lt_or_ge x j with h | h
  ·rw [List.getD_eq_getElem?_getD, List.getElem?_append_left (by rw [af_]; exact h), ← List.getD_eq_getElem?_getD, ih x h]
  obtain rfl : x = j := by omega
  rw [List.getD_eq_getElem?_getD, List.getElem?_append_right (by rw [af_]; exact Nat.le_refl _), af_]
  simp
def qv_ (l ps ys : List Int) : Nat → List Int
 | 0 => l
 | i + 1 => (qv_ l ps ys i).set (ps.getD i 0).toNat (xorI (mx (l.getD (ps.getD i 0).toNat 0) 0) (ys.getD i 0))
theorem cp_ (l ps ys : List Int) (i : Nat) : (qv_ l ps ys i).length = l.length := by
 induction i with
 | zero => rfl
 | succ i ih => simp only [qv_, List.length_set, ih]
def qn_ (l ps : List Int) : List Int := if (solR 6 ps.length (ig_ (matFill l ps 6))).2 = true then qv_ l ps (solR 6 ps.length (ig_ (matFill l ps 6))).1 ps.length else []
section
open F
theorem rd_nat {l : List Int} {p : Int} (h : 0 ≤ p) : rd l p = l.getD p.toNat 0 := by
 obtain ⟨n, rfl⟩ : ∃ n : Nat, p = n := ⟨p.toNat, Qa⟩
 rw [df_, Int.toNat_natCast]
theorem oj1_ (l ps ys : List Int) (hl : l.length ≤ 1000) (hp : eg_ l.length ps) (hy : ys.length = ps.length) : ∀ (d i k : Nat), i + d = ps.length → d < k → fc_.l2 k l ys (qv_ l ps ys i) ps (ps.length : Int) (i : Int) = some (qv_ l ps ys ps.length) := by
 intro d
 induction d with
 | zero =>
  intro i k hi hk
  obtain ⟨k, rfl⟩ : ∃ m, k = m + 1 := ⟨k - 1, Qa⟩
  simp only [fc_.l2]
  rw [if_neg Qa]
  obtain rfl : i = ps.length := by omega
  rfl
 | succ d ih =>
  intro i k hi hk
  obtain ⟨k, rfl⟩ : ∃ m, k = m + 1 := ⟨k - 1, Qa⟩
  have h6 := hp.1
  obtain ⟨hp0, hp1⟩ := hp.2 i Qa
  have hs : wrap64 ((i : Int) + 1) = ((i + 1 : Nat) : Int) := by unfold wrap64; omega
  simp only [fc_.l2]
  rw [if_pos Qa, if_pos Qa, if_pos Qa]
  rw [df_ ps i, df_ ys i, rd_nat hp0, hs]
  rw [if_pos hp0, if_pos Qa, if_pos Qa, if_pos (by rw [cp_]; omega)]
  exact ih (i + 1) k Qa Qa
theorem nj1_ (l ps : List Int) (x5 : List (List Int)) (syn : List Int) (s : Int) (j : Nat) (r : List Int) (K : Nat) (hj : j < 6) (h5 : x5.length < 1000) (hps : ps.length ≤ 6)
  (hc : ∀ k, K ≤ k → fc_.l0 k l ps (x5 ++ [rowF l.length ps j ++ [s]]) syn ((j + 1 : Nat) : Int) = some r) :
  ∀ (d i k : Nat), i + d = ps.length → K + d < k → fc_.l1 k l ps x5 (j : Int) s ((ps.take i).map fun p => atI l.length p ((j + 1 : Nat) : Int)) syn (j : Int) ps (ps.length : Int) (i : Int) = some r := by
 have hsj : wrap64 ((j : Int) + 1) = ((j + 1 : Nat) : Int) := by unfold wrap64; omega
 intro d
 induction d with
 | zero =>
  intro i k hi hk
  obtain ⟨k, rfl⟩ : ∃ m, k = m + 1 := ⟨k - 1, Qa⟩
  simp only [fc_.l1]
  rw [if_neg Qa, if_pos (by simp only [List.length_map, List.length_take]; omega), if_pos Qa, hsj, List.take_of_length_le Qa]
  exact hc k Qa
 | succ d ih =>
  intro i k hi hk
  obtain ⟨k, rfl⟩ : ∃ m, k = m + 1 := ⟨k - 1, Qa⟩
  have hs : wrap64 ((i : Int) + 1) = ((i + 1 : Nat) : Int) := by unfold wrap64; omega
  simp only [fc_.l1]
  rw [if_pos Qa, if_pos Qa, if_pos Qa]
  simp only [g_at.f, Option.bind_some]
  rw [if_pos (by simp only [List.length_map, List.length_take]; omega), hs, hsj, df_]
  have := ih (i + 1) k Qa Qa
  rwa [List.take_add_one, List.getElem?_eq_getElem Qa, List.map_append, show (List.map (fun p => atI l.length p ((j + 1 : Nat) : Int)) (some (ps[i]'Qa)).toList) = [atI l.length (ps.getD i 0) ((j + 1 : Nat) : Int)] from by rw [List.getD_eq_getElem?_getD, List.getElem?_eq_getElem Qa]; rfl] at this
theorem wk1_ (l ps : List Int) (hps : ps.length ≤ 6) : vs_ (matFill l ps 6) ((matFill l ps 6).headD []).length = true := by
 have hrow : ∀ x ∈ matFill l ps 6, x.length = ps.length + 1 := by
  intro x hx
  obtain ⟨i, hi, rfl⟩ := List.mem_iff_getElem.1 hx
  have := ll_ l ps 6 i (by rwa [af_] at hi)
  rw [List.getD_eq_getElem?_getD, List.getElem?_eq_getElem hi] at this
  simp only [Option.getD_some] at this
  rw [this]; simp [rowF]
 have hh : ((matFill l ps 6).headD []).length = ps.length + 1 := by
  apply hrow
  rw [List.headD_eq_head?_getD, List.head?_eq_getElem?, List.getElem?_eq_getElem (by rw [af_]; omega)]
  exact List.getElem_mem _
 unfold vs_
 rw [hh, af_]
 simp only [Bool.and_eq_true, decide_eq_true_eq, List.all_eq_true]
 exact ⟨Qa, hrow⟩
theorem db1_ (l ps : List Int) (hps : ps.length ≤ 6) : ui_.f (matFill l ps 6) = some (solR 6 ps.length (ig_ (matFill l ps 6))) := by
 unfold ui_.f
 rw [if_pos (wk1_ l ps hps), af_]
 have hh : ((matFill l ps 6).headD []).length = ps.length + 1 := by
  have h0 := ll_ l ps 6 0 Qa
  rw [List.headD_eq_head?_getD, List.head?_eq_getElem?, ← List.getD_eq_getElem?_getD, h0]
  simp [rowF]
 rw [hh, Nat.add_sub_cancel]
theorem eu_ {R n : Nat} {M : Nat → Nat → Int} (h : (solR R n M).2 = true) : (solR R n M).1.length = n := by
 unfold solR at h ⊢
 cases hg : gjI R M n with
 | none => rw [hg] at h; cases h
 | some M' =>
  rw [hg] at h
  simp only at h ⊢
  split at h
  ·rw [if_pos (by assumption)]; simp
  ·cases h
theorem mj1_ (l ps : List Int) (hl : l.length ≤ 15) (hp : eg_ l.length ps) : ∀ (d j k : Nat), j + d = 6 → 20 + d * 10 < k → fc_.l0 k l ps (matFill l ps j) (synI l) (j : Int) = some (qn_ l ps) := by
 intro d
 induction d with
 | zero =>
  intro j k hj hk
  obtain ⟨k, rfl⟩ : ∃ m, k = m + 1 := ⟨k - 1, Qa⟩
  obtain rfl : j = 6 := by omega
  simp only [fc_.l0]
  rw [if_neg Qa, db1_ l ps hp.1]
  simp only [Option.bind_some]
  unfold qn_
  by_cases hs : (solR 6 ps.length (ig_ (matFill l ps 6))).2 = true
  rotate_left
  ·rw [if_neg hs, if_neg hs]
  rw [if_pos hs, if_pos hs]
  unfold ti_.f
  rw [if_pos Qa]
  simp only [Option.bind_some]
  have := hp.1
  exact oj1_ l ps _ Qa hp (eu_ hs) ps.length 0 k Qa Qa
 | succ d ih =>
  intro j k hj hk
  obtain ⟨k, rfl⟩ : ∃ m, k = m + 1 := ⟨k - 1, Qa⟩
  have hlen : (synI l).length = 6 := by simp [synI]
  simp only [fc_.l0]
  rw [if_pos Qa, if_pos Qa, if_pos Qa]
  have hs : rd (synI l) (j : Int) = ofG (psum l (j + 1) l.length) := by
   rw [df_]
   unfold synI
   rw [List.getD_eq_getElem?_getD, List.getElem?_map, List.getElem?_range Qa]
   rfl
  have hp6 := hp.1
  have hrow := nj1_ l ps (matFill l ps j) (synI l) (ofG (psum l (j + 1) l.length)) j (qn_ l ps) (20 + d * 10 + 1) Qa (by rw [af_]; omega) hp6 (fun k hk => ih (j + 1) k Qa Qa) ps.length 0 k Qa Qa
  rw [hs]
  exact hrow
theorem fill_f (l ps : List Int) (hl : l.length ≤ 15) (hp : eg_ l.length ps) (k : Nat) (hk : 100 ≤ k) : fc_.f k l ps = some (qn_ l ps) := by
 unfold fc_.f nm_.f
 rw [if_pos hl]
 simp only [Option.bind_some]
 exact mj1_ l ps hl hp 6 0 k Qa Qa
theorem pq_ (l ps : List Int) (hl : l.length ≤ 15) (hp : eg_ l.length ps) : fk_.f l ps = some (qn_ l ps) := fill_f l ps hl hp 400 Qa
end
end Go.Proofs.YtpkhgapifnjbeaaGreatDoor.G
end
section
namespace Go.Proofs.YtpkhgapifnjbeaaGreatDoor.G
open RowKit Zw.PrintWords Zw.PrintLast Zw.PrintMore Rs
def zeroTo (l ps : List Int) : Nat → List Int
 | 0 => l
 | i + 1 => (zeroTo l ps i).set (ps.getD i 0).toNat 0
theorem we_ (l ps : List Int) (i : Nat) : (zeroTo l ps i).length = l.length := by
 induction i with
 | zero => rfl
 | succ i ih => simp only [zeroTo, List.length_set, ih]
theorem bl_ (l ps : List Int) (hps : ps.length ≤ 6) (i k : Nat) (hi : i < 6) : ig_ (matFill l ps 6) i k = if k < ps.length then atI l.length (ps.getD k 0) ((i + 1 : Nat) : Int) else if k = ps.length then ofG (psum l (i + 1) l.length) else 0 := by
 unfold ig_
 rw [ll_ l ps 6 i hi]
 by_cases h1 : k < ps.length
 ·rw [if_pos h1, List.getD_eq_getElem?_getD, List.getElem?_append_left (by simpa [rowF] using h1)]
  unfold rowF
  rw [List.getElem?_map, List.getElem?_eq_getElem h1]
  rw [List.getD_eq_getElem?_getD, List.getElem?_eq_getElem h1]
  rfl
 rw [if_neg h1]
 by_cases h2 : k = ps.length
 ·rw [if_pos h2, List.getD_eq_getElem?_getD, List.getElem?_append_right (by simp [rowF]; omega)]
  simp [rowF, h2]
 ·rw [if_neg h2, List.getD_eq_getElem?_getD, List.getElem?_eq_none (by simp [rowF]; omega)]; rfl
theorem vy_ (n : Nat) (p j : Int) : isEl (atI n p j) = true := fd1_ _
theorem ot_ (l ps : List Int) (hps : ps.length ≤ 6) : ElM 6 (ps.length + 1) (ig_ (matFill l ps 6)) := by
 intro i k hi hk
 rw [bl_ l ps hps i k hi]
 split
 ·exact vy_ _ _ _
 split
 ·exact kh_ _
 ·rfl
section
open R
end
end Go.Proofs.YtpkhgapifnjbeaaGreatDoor.G
end
section
namespace Go.Proofs.YtpkhgapifnjbeaaGreatDoor.G
open RowKit Rs
def SolM (R n : Nat) (M : Nat → Nat → Int) (y : Nat → GF) : Prop := ∀ i, i < R → gsum n (fun k => toG (M i k) * y k) = toG (M i n)
def Indep (R n : Nat) (M : Nat → Nat → Int) : Prop := ∀ y : Nat → GF, (∀ i, i < R → gsum n (fun k => toG (M i k) * y k) = 0) → ∀ k, k < n → y k = 0
theorem id1_ {R n : Nat} {M : Nat → Nat → Int} (y : Nat → GF) : KerM R (n + 1) M (fun k => if k < n then y k else 1) ↔ SolM R n M y := by
 have e : ∀ i, gsum (n + 1) (fun k => toG (M i k) * (if k < n then y k else 1)) = gsum n (fun k => toG (M i k) * y k) + toG (M i n) := by
  intro i
  show gsum n _ + toG (M i n) * (if n < n then y n else 1) = _
  rw [if_neg Qa, GF.mul_one]
  congr 1
  exact id_ fun k hk => by rw [if_pos hk]
 refine ⟨fun h i hi => GF.aj_ (by rw [← e i]; exact h i hi), fun h i hi => by rw [e i, h i hi, GF.gi_]⟩
theorem bi1_ {R n : Nat} {M : Nat → Nat → Int} (h : IdM R n M) (y : Nat → GF) (i : Nat) (hi : i < R) : gsum n (fun k => toG (M i k) * y k) = if i < n then y i else 0 := by
 have hlow : ∀ k, k < n → toG (M i k) * y k = if i = k then y k else 0 := by
  intro k hk
  rw [h i k hi hk]
  unfold dl
  by_cases e1 : i = k
  ·rw [if_pos e1, if_pos e1, show toG 1 = 1 from rfl, GF.one_mul]
  ·rw [if_neg e1, if_neg e1, show toG 0 = 0 from rfl, GF.zero_mul]
 by_cases hin : i < n
 ·rw [if_pos hin, kl_ n _ i hin (fun k hk hne => by rw [hlow k hk, if_neg (fun q => hne q.symm)]), hlow i hin, if_pos rfl]
 ·rw [if_neg hin, id_ (g := fun _ => 0) (fun k hk => by rw [hlow k hk, if_neg Qa]), cj_]
theorem tq_ {R n : Nat} {M : Nat → Nat → Int} (he : ElM R (n + 1) M) (hi : Indep R n M) : ∃ M', gjI R M n = some M' ∧ ElM R (n + 1) M' ∧ IdM R n M' ∧ n ≤ R ∧ ∀ y, SolM R n M y ↔ ∀ i, i < R → (if i < n then y i else 0) = toG (M' i n) := by
 cases hg : gjI R M n with
 | none =>
  obtain ⟨x, ⟨k, hk, hk0⟩, hz, hK⟩ := pj1_ he n Qa hg
  refine absurd (hi x (fun i hi => ?_) k hk) hk0
  have := hK i hi
  simp only [gsum] at this
  rwa [hz n (Nat.le_refl _), GF.mul_zero, GF.add_zero] at this
 | some M' =>
  obtain ⟨a1, a2, a3, a4⟩ := gj_ok he n M' Qa hg
  refine ⟨M', rfl, a1, a3, a4, fun y => ?_⟩
  rw [← id1_, ← a2, id1_]
  refine ⟨fun h i hi => ?_, fun h i hi => ?_⟩
  ·rw [← bi1_ a3 y i hi]; exact h i hi
  show gsum n _ = _
  rw [bi1_ a3 y i hi]; exact h i hi
theorem gj_at {R n : Nat} {M M' : Nat → Nat → Int} (he : ElM R (n + 1) M') {y : Nat → GF} (h : ∀ i, i < R → (if i < n then y i else 0) = toG (M' i n)) (k : Nat) (hk : k < n) (hR : n ≤ R) : M' k n = ofG (y k) := by
 have := h k Qa
 rw [if_pos hk] at this
 rw [this, bi_ ((le_ _).1 (he k n Qa Qa)).1 ((le_ _).1 (he k n Qa Qa)).2]
theorem jh_ (n k : Nat) (f : Nat → Int) (hk : k < n) : ((List.range n).map f).getD k 0 = f k := by
 rw [List.getD_eq_getElem?_getD, List.getElem?_map, List.getElem?_range hk]; rfl
theorem ys_ {R n : Nat} {M : Nat → Nat → Int} (he : ElM R (n + 1) M) (hi : Indep R n M) {y : Nat → GF} (hy : SolM R n M y) : (solR R n M).2 = true ∧ ∀ k, k < n → (solR R n M).1.getD k 0 = ofG (y k) := by
 obtain ⟨M', hg, a1, a3, a4, hs⟩ := tq_ he hi
 have h := (hs y).1 hy
 have hz : ∀ i, n ≤ i → i < R → M' i n = 0 := fun i h1 h2 => by
  have := h i h2
  rw [if_neg Qa] at this
  exact (ir_ (a1 i n h2 Qa)).1 this.symm
 rw [do_ hg hz]
 exact ⟨rfl, fun k hk => by rw [jh_ n k _ hk]; exact gj_at (M := M) a1 h k hk a4⟩
theorem wg1_ {R n : Nat} {M : Nat → Nat → Int} (he : ElM R (n + 1) M) (hi : Indep R n M) (h2 : (solR R n M).2 = true) : SolM R n M (fun k => toG ((solR R n M).1.getD k 0)) ∧ ∀ k, k < n → isEl ((solR R n M).1.getD k 0) = true := by
 obtain ⟨M', hg, a1, a3, a4, hs⟩ := tq_ he hi
 by_cases hz : ∀ i, n ≤ i → i < R → M' i n = 0
 rotate_left
 ·have : ∃ i, n ≤ i ∧ i < R ∧ M' i n ≠ 0 := Classical.byContradiction fun hh => hz fun i h1 h2 => Classical.byContradiction fun h3 => hh ⟨i, h1, h2, h3⟩
  obtain ⟨i, h3, h4, h5⟩ := this
  rw [jz_ hg h4 h3 h5] at h2
  cases h2
 rw [do_ hg hz]
 refine ⟨(hs _).2 fun i hi => ?_, fun k hk => by rw [jh_ n k _ hk]; exact a1 k n Qa Qa⟩
 by_cases hin : i < n
 ·rw [if_pos hin]; simp only; rw [jh_ n i _ hin]
 ·rw [if_neg hin, hz i Qa hi]; rfl
theorem tx_ {n : Nat} {M : Nat → Nat → Int} (he : ElM n (n + 1) M) (hi : Indep n n M) : (solR n n M).2 = true := by
 obtain ⟨M', hg, a1, a3, a4, hs⟩ := tq_ he hi
 rw [do_ hg (fun i h1 h2 => absurd h1 Qa)]
theorem dv_ (n : Nat) (f : Nat → GF) (p : Nat → Nat) : ∀ (m : Nat) (f : Nat → GF), (∀ k, k < m → p k < n) → (∀ i j, i < m → j < m → p i = p j → i = j) → (∀ i, i < n → (∀ k, k < m → p k ≠ i) → f i = 0) → gsum n f = gsum m (fun k => f (p k)) := by
 intro m
 induction m with
 | zero =>
  intro f _ _ hz
  show gsum n f = 0
  rw [id_ (g := fun _ => 0) (fun i hi => hz i hi (fun k hk => by omega)), cj_]
 | succ m ih =>
  intro f hp hi hz
  obtain ⟨f1, hf1⟩ : ∃ f1 : Nat → GF, f1 = fun i => if i = p m then 0 else f i := ⟨_, rfl⟩
  obtain ⟨f2, hf2⟩ : ∃ f2 : Nat → GF, f2 = fun i => if i = p m then f i else 0 := ⟨_, rfl⟩
  have h1 := ih f1 (fun k hk => hp k Qa) (fun i j h1 h2 => hi i j Qa Qa) (fun i hin hk => by
   rw [hf1]; simp only
   by_cases e : i = p m
   ·rw [if_pos e]
   rw [if_neg e]
   refine hz i hin fun k hk' => ?_
   rcases Nat.lt_or_ge k m with h | h
   ·exact hk k h
   ·rw [show k = m from by omega]; exact fun q => e q.symm)
  have h2 : gsum n f2 = f (p m) := by
   rw [kl_ n f2 (p m) (hp m Qa) (fun i _ hne => by rw [hf2]; simp only; rw [if_neg hne])]
   rw [hf2]; simp
  have h3 : gsum n f = gsum n f1 + gsum n f2 := by
   rw [← jl_]
   refine id_ fun i hin => ?_
   rw [hf1, hf2]; simp only
   by_cases e : i = p m
   ·rw [if_pos e, if_pos e, GF.zero_add]
   ·rw [if_neg e, if_neg e, GF.add_zero]
  rw [h3, h1, h2]
  show _ = gsum m _ + _
  congr 1
  refine id_ fun k hk => ?_
  rw [hf1]; simp only
  rw [if_neg (fun e => by have := hi k m Qa Qa e; omega)]
def PS (ps : List Int) (k : Nat) : Nat := (ps.getD k 0).toNat
def XP (n : Nat) (ps : List Int) (k : Nat) : GF := GF.ex (n - 1 - PS ps k)
def bf_ (n : Nat) (ps : List Int) : Prop := eg_ n ps ∧ ∀ i j, i < ps.length → j < ps.length → PS ps i = PS ps j → i = j
theorem kj1_ (a j : Nat) : GF.ex (j * a) = GF.pw (GF.ex a) j := by rw [Nat.mul_comm, GF.tc1_]
theorem dy_ {n : Nat} (hn : n ≤ 100) {p : Int} (h0 : 0 ≤ p) (h1 : p < n) (j : Nat) (hj : j ≤ 100) : atI n p (j : Int) = ofG (GF.pw (GF.ex (n - 1 - p.toNat)) j) := by
 unfold atI powI
 have e1 : wrap64 ((n : Int) - 1) = ((n - 1 : Nat) : Int) := by unfold wrap64; omega
 have e2 : wrap64 (((n - 1 : Nat) : Int) - p) = ((n - 1 - p.toNat : Nat) : Int) := by unfold wrap64; omega
 have hb : j * (n - 1 - p.toNat) ≤ 100 * 100 := Nat.mul_le_mul hj Qa
 have e3 : wrap64 ((j : Int) * ((n - 1 - p.toNat : Nat) : Int)) = ((j * (n - 1 - p.toNat) : Nat) : Int) := by
  rw [← Int.natCast_mul]
  generalize j * (n - 1 - p.toNat) = q at hb
  unfold wrap64; omega
 rw [e1, e2, e3, ← kj1_]
 congr 1
 rw [show (((j * (n - 1 - p.toNat) : Nat) : Int) % 31).toNat = (j * (n - 1 - p.toNat)) % 31 from by omega, ← GF.wu_]
section
variable {l c c' ps : List Int}
theorem bf_.lt (hp : bf_ l.length ps) {k : Nat} (hk : k < ps.length) : PS ps k < l.length := by
 have := hp.1.2 k hk
 unfold PS; omega
theorem ve1_ (n : Nat) (ps : List Int) (k : Nat) : XP n ps k ≠ 0 := GF.ls_ _
theorem cy_ (hn : l.length ≤ 15) (hp : bf_ l.length ps) : ∀ i j, i < ps.length → j < ps.length → XP l.length ps i = XP l.length ps j → i = j := by
 intro i j hi hj e
 have h1 := hp.lt hi
 have h2 := hp.lt hj
 have := GF.ai1_ Qa Qa e
 exact hp.2 i j hi hj Qa
structure yg_ (l ps c : List Int) : Prop where
 len : c.length = l.length
 agree : ∀ i, i < l.length → (∀ k, k < ps.length → PS ps k ≠ i) → c.getD i 0 = l.getD i 0
 els : ∀ k, k < ps.length → isEl (c.getD (PS ps k) 0) = true
 cw : ∀ j, j < 6 → psum c (j + 1) c.length = 0
theorem yn_ (hp : bf_ l.length ps) (hl : c.length = l.length) (ha : ∀ i, i < l.length → (∀ k, k < ps.length → PS ps k ≠ i) → c.getD i 0 = l.getD i 0) (j : Nat) :
  psum l j l.length + psum c j c.length = gsum ps.length (fun k => (vG (l.getD (PS ps k) 0) + vG (c.getD (PS ps k) 0)) * GF.pw (XP l.length ps k) j) := by
 unfold psum
 rw [hl, ← jl_]
 rw [id_ (g := fun i => (vG (l.getD i 0) + vG (c.getD i 0)) * GF.pw (GF.ex (l.length - 1 - i)) j) (fun i hi => by rw [← GF.add_mul, kj1_])]
 rw [dv_ l.length (fun _ => 0) (PS ps) ps.length _ (fun k hk => hp.lt hk) hp.2 (fun i hi hk => by rw [ha i hi hk, GF.gi_, GF.zero_mul])]
 rfl
theorem al_ (hn : l.length ≤ 15) (hp : bf_ l.length ps) : Indep 6 ps.length (ig_ (matFill l ps 6)) := by
 intro y hy
 have h6 := hp.1.1
 refine vand ps.length (XP l.length ps) y 1 (fun i _ => ve1_ _ _ _) (cy_ hn hp) fun j hj => ?_
 rw [← hy j Qa]
 refine id_ fun k hk => ?_
 obtain ⟨h0, h1⟩ := hp.1.2 k hk
 rw [bl_ l ps h6 j k Qa, if_pos hk, dy_ Qa h0 h1 (j + 1) Qa, th_, Nat.add_comm 1 j]
 exact GF.mul_comm _ _
theorem kz_ (hn : l.length ≤ 15) (hp : bf_ l.length ps) (y : Nat → GF) : SolM 6 ps.length (ig_ (matFill l ps 6)) y ↔ ∀ j, j < 6 → gsum ps.length (fun k => y k * GF.pw (XP l.length ps k) (j + 1)) = psum l (j + 1) l.length := by
 have h6 := hp.1.1
 have e : ∀ j, j < 6 → gsum ps.length (fun k => toG (ig_ (matFill l ps 6) j k) * y k) = gsum ps.length (fun k => y k * GF.pw (XP l.length ps k) (j + 1)) ∧ toG (ig_ (matFill l ps 6) j ps.length) = psum l (j + 1) l.length := by
  intro j hj
  refine ⟨id_ fun k hk => ?_, ?_⟩
  ·obtain ⟨h0, h1⟩ := hp.1.2 k hk
   rw [bl_ l ps h6 j k hj, if_pos hk, dy_ Qa h0 h1 (j + 1) Qa, th_]
   exact GF.mul_comm _ _
  ·rw [bl_ l ps h6 j _ hj, if_neg Qa, if_pos rfl, th_]
 refine ⟨fun h j hj => ?_, fun h j hj => ?_⟩
 ·rw [← (e j hj).1, ← (e j hj).2]; exact h j hj
 ·rw [(e j hj).1, (e j hj).2]; exact h j hj
theorem yg_.sol (hn : l.length ≤ 15) (hp : bf_ l.length ps) (h : yg_ l ps c) : SolM 6 ps.length (ig_ (matFill l ps 6)) (fun k => vG (l.getD (PS ps k) 0) + vG (c.getD (PS ps k) 0)) := by
 rw [kz_ hn hp]
 intro j hj
 rw [← yn_ hp h.len h.agree, h.cw j hj, GF.add_zero]
theorem yg_.uniq (hn : l.length ≤ 15) (hp : bf_ l.length ps) (h : yg_ l ps c) (h' : yg_ l ps c') : c = c' := by
 have hy := al_ hn hp (fun k => vG (c.getD (PS ps k) 0) + vG (c'.getD (PS ps k) 0)) (fun i hi => by
  have h6 := hp.1.1
  have e := yn_ (l := c) (c := c') (ps := ps) (by rw [h.len]; exact hp) (by rw [h.len, h'.len]) (fun i hi hk => by rw [h.agree i (by rw [← h.len]; exact hi) hk, h'.agree i (by rw [← h.len]; exact hi) hk]) (i + 1)
  rw [h.cw i hi, h'.cw i hi, GF.add_zero, h.len] at e
  rw [e]
  refine id_ fun k hk => ?_
  obtain ⟨h0, h1⟩ := hp.1.2 k hk
  rw [bl_ l ps h6 i k hi, if_pos hk, dy_ Qa h0 h1 (i + 1) Qa, th_]
  exact GF.mul_comm _ _)
 apply List.ext_getElem (by rw [h.len, h'.len])
 intro i h1 h2
 have e : c.getD i 0 = c'.getD i 0 := by
  by_cases hk : ∃ k, k < ps.length ∧ PS ps k = i
  ·obtain ⟨k, hk, rfl⟩ := hk
   have := GF.aj_ (hy k hk)
   rw [← ap_ (h.els k hk), this, ap_ (h'.els k hk)]
  ·have hk' : ∀ k, k < ps.length → PS ps k ≠ i := fun k hk1 e => hk ⟨k, hk1, e⟩
   rw [h.agree i (by rw [← h.len]; exact h1) hk', h'.agree i (by rw [← h.len]; exact h1) hk']
 rwa [List.getD_eq_getElem?_getD, List.getD_eq_getElem?_getD, List.getElem?_eq_getElem h1, List.getElem?_eq_getElem h2] at e
end
end Go.Proofs.YtpkhgapifnjbeaaGreatDoor.G
end
section
namespace Go.Proofs.YtpkhgapifnjbeaaGreatDoor.G
open RowKit Zw.PrintWords Zw.PrintLast Zw.PrintMore Rs
def setsTo (l ps : List Int) (v : Nat → Int) : Nat → List Int
 | 0 => l
 | i + 1 => (setsTo l ps v i).set (PS ps i) (v i)
theorem sg_ (l ps : List Int) (v : Nat → Int) (i : Nat) : (setsTo l ps v i).length = l.length := by
 induction i with
 | zero => rfl
 | succ i ih => simp only [setsTo, List.length_set, ih]
theorem os_ (l ps ys : List Int) (i : Nat) : qv_ l ps ys i = setsTo l ps (fun k => xorI (mx (l.getD (PS ps k) 0) 0) (ys.getD k 0)) i := by
 induction i with
 | zero => rfl
 | succ i ih => simp only [qv_, setsTo, ih]; rfl
theorem ql_ (l ps : List Int) (i : Nat) : zeroTo l ps i = setsTo l ps (fun _ => 0) i := by
 induction i with
 | zero => rfl
 | succ i ih => simp only [zeroTo, setsTo, ih]; rfl
theorem tn_ (l : List Int) (i j : Nat) (x : Int) : (l.set i x).getD j 0 = if i = j ∧ i < l.length then x else l.getD j 0 := by
 rw [List.getD_eq_getElem?_getD, List.getElem?_set, List.getD_eq_getElem?_getD]
 by_cases e : i = j
 rotate_left
 ·simp [e]
 subst e
 by_cases h : i < l.length
 ·simp [h]
 ·simp [h]
theorem wi_ (l ps : List Int) (v : Nat → Int) (i : Nat) : ∀ m, (∀ k, k < m → PS ps k ≠ i) → (setsTo l ps v m).getD i 0 = l.getD i 0 := by
 intro m
 induction m with
 | zero => intro _; rfl
 | succ m ih =>
  intro h
  simp only [setsTo]
  rw [tn_, if_neg (fun q => h m Qa q.1), ih (fun k hk => h k Qa)]
theorem xj_ {l ps : List Int} (hp : bf_ l.length ps) (v : Nat → Int) : ∀ m k, m ≤ ps.length → k < m → (setsTo l ps v m).getD (PS ps k) 0 = v k := by
 intro m
 induction m with
 | zero => intro k _ hk; omega
 | succ m ih =>
  intro k hm hk
  simp only [setsTo]
  rw [tn_, sg_]
  by_cases e : k = m
  ·subst e
   rw [if_pos ⟨rfl, hp.lt Qa⟩]
  rw [if_neg (fun q => e (hp.2 m k Qa Qa q.1).symm)]
  exact ih k Qa Qa
theorem mx_vG {x : Int} (h : -1 ≤ x ∧ x ≤ 31) : mx x 0 = ofG (vG x) := by
 unfold mx
 by_cases h0 : x < 0
 ·rw [if_pos h0]
  unfold vG
  rw [if_neg (by simp [isEl]; omega)]; rfl
 ·rw [if_neg h0, ap_ (by simp [isEl]; omega)]
section
variable {l c ps : List Int}
theorem yw_ (hn : l.length ≤ 15) (hp : bf_ l.length ps) (hw : ∀ k, k < ps.length → -1 ≤ l.getD (PS ps k) 0 ∧ l.getD (PS ps k) 0 ≤ 31) (h : yg_ l ps c) : qn_ l ps = c := by
 have h6 := hp.1.1
 obtain ⟨h2, hy⟩ := ys_ (ot_ l ps h6) (al_ hn hp) (h.sol hn hp)
 unfold qn_
 rw [if_pos h2, os_]
 apply List.ext_getElem (by rw [sg_, h.len])
 intro i h1 h3
 have e : (setsTo l ps (fun k => xorI (mx (l.getD (PS ps k) 0) 0) ((solR 6 ps.length (ig_ (matFill l ps 6))).1.getD k 0)) ps.length).getD i 0 = c.getD i 0 := by
  by_cases hk : ∃ k, k < ps.length ∧ PS ps k = i
  ·obtain ⟨k, hk, rfl⟩ := hk
   rw [xj_ hp _ _ _ (Nat.le_refl _) hk, hy k hk, mx_vG (hw k hk), fm_]
   rw [← GF.add_assoc, GF.gi_, GF.zero_add, ap_ (h.els k hk)]
  ·have hk' : ∀ k, k < ps.length → PS ps k ≠ i := fun k hk1 e => hk ⟨k, hk1, e⟩
   rw [wi_ _ _ _ _ _ hk', h.agree i (by rw [sg_] at h1; exact h1) hk']
 rwa [List.getD_eq_getElem?_getD, List.getD_eq_getElem?_getD, List.getElem?_eq_getElem h1, List.getElem?_eq_getElem h3] at e
theorem py_ (hn : l.length ≤ 15) (hp : bf_ l.length ps) (hw : ∀ k, k < ps.length → -1 ≤ l.getD (PS ps k) 0 ∧ l.getD (PS ps k) 0 ≤ 31) : qn_ l ps = [] ∨ yg_ l ps (qn_ l ps) := by
 have h6 := hp.1.1
 unfold qn_
 by_cases h2 : (solR 6 ps.length (ig_ (matFill l ps 6))).2 = true
 rotate_left
 ·rw [if_neg h2]; exact .inl rfl
 rw [if_pos h2]
 refine .inr ?_
 obtain ⟨hs, hel⟩ := wg1_ (ot_ l ps h6) (al_ hn hp) h2
 rw [kz_ hn hp] at hs
 rw [os_]
 obtain ⟨ys, hys⟩ : ∃ ys, ys = (solR 6 ps.length (ig_ (matFill l ps 6))).1 := ⟨_, rfl⟩
 rw [← hys] at hs hel ⊢
 have hv : ∀ k, k < ps.length → xorI (mx (l.getD (PS ps k) 0) 0) (ys.getD k 0) = ofG (vG (l.getD (PS ps k) 0) + toG (ys.getD k 0)) := by
  intro k hk
  rw [mx_vG (hw k hk), ← fm_, bi_ ((le_ _).1 (hel k hk)).1 ((le_ _).1 (hel k hk)).2]
 have hag : ∀ i, i < l.length → (∀ k, k < ps.length → PS ps k ≠ i) → (setsTo l ps (fun k => xorI (mx (l.getD (PS ps k) 0) 0) (ys.getD k 0)) ps.length).getD i 0 = l.getD i 0 := fun i hi hk => wi_ _ _ _ _ _ hk
 refine ⟨sg_ _ _ _ _, hag, fun k hk => ?_, fun j hj => ?_⟩
 ·rw [xj_ hp _ _ _ (Nat.le_refl _) hk, hv k hk]; exact kh_ _
 have e := yn_ (c := setsTo l ps (fun k => xorI (mx (l.getD (PS ps k) 0) 0) (ys.getD k 0)) ps.length) hp (sg_ _ _ _ _) hag (j + 1)
 rw [← hs j hj] at e
 have e2 : gsum ps.length (fun k => (vG (l.getD (PS ps k) 0) + vG ((setsTo l ps (fun k => xorI (mx (l.getD (PS ps k) 0) 0) (ys.getD k 0)) ps.length).getD (PS ps k) 0)) * GF.pw (XP l.length ps k) (j + 1)) = gsum ps.length (fun k => toG (ys.getD k 0) * GF.pw (XP l.length ps k) (j + 1)) := by
  refine id_ fun k hk => ?_
  rw [xj_ hp _ _ _ (Nat.le_refl _) hk, hv k hk, vG_ofG, ← GF.add_assoc, GF.gi_, GF.zero_add]
 rw [e2] at e
 have := congrArg (fun q => gsum ps.length (fun k => toG (ys.getD k 0) * GF.pw (XP l.length ps k) (j + 1)) + q) e
 simp only [GF.gi_] at this
 rwa [← GF.add_assoc, GF.gi_, GF.zero_add] at this
theorem yg_.zero (hp : bf_ l.length ps) : yg_ (zeroTo l ps ps.length) ps c ↔ yg_ l ps c := by
 have hoff : ∀ i, (∀ k, k < ps.length → PS ps k ≠ i) → (zeroTo l ps ps.length).getD i 0 = l.getD i 0 := fun i hk => by rw [ql_]; exact wi_ _ _ _ _ _ hk
 refine ⟨fun h => ⟨by rw [h.len, we_], fun i hi hk => by rw [h.agree i (by rw [we_]; exact hi) hk, hoff i hk], h.els, h.cw⟩, fun h => ⟨by rw [h.len, we_], fun i hi hk => by rw [we_] at hi; rw [h.agree i hi hk, hoff i hk], h.els, h.cw⟩⟩
theorem fh_ (h : lf_ c = true) : isWord c 0 = true ∧ ∀ j, j < 6 → psum c (j + 1) c.length = 0 := by
 unfold lf_ at h
 simp only [Bool.and_eq_true, List.all_eq_true, decide_eq_true_eq] at h
 exact ⟨h.1, fun j hj => h.2 j (List.mem_range.2 hj)⟩
theorem fc1_ (h1 : isWord c 0 = true) (h2 : ∀ j, j < 6 → psum c (j + 1) c.length = 0) : lf_ c = true := by
 unfold lf_
 simp only [Bool.and_eq_true, List.all_eq_true, decide_eq_true_eq]
 exact ⟨h1, fun j hj => h2 j (List.mem_range.1 hj)⟩
end
end Go.Proofs.YtpkhgapifnjbeaaGreatDoor.G
end
section
namespace Go.Proofs.YtpkhgapifnjbeaaGreatDoor.E
open RowKit G Rs Zw.PrintWords Zw.PrintLast Zw.PrintMore
attribute [local go_sem] pd_ rd_ yd_ zd_ dd_ ed_ qd_ sd_
def errW : Option Int → Value
 | none => .nilIface
 | some c => .iface 0 (.int .i64 c)
theorem ib_ : errW none = .nilIface := rfl
theorem jb_ (c : Int) : errW (some c) = .iface 0 (.int .i64 c) := rfl
theorem zh_ : (Tryz.prog.info? 3).map (fun i => (i.zero, i.size, i.bytes)) = some (some (.int .i64 0), 1, 8) := by kernel_rfl
end Go.Proofs.YtpkhgapifnjbeaaGreatDoor.E
end
section
namespace Go.Proofs.YtpkhgapifnjbeaaGreatDoor.E
open RowKit G Rs Zw.PrintWords Zw.PrintLast Zw.PrintMore
attribute [local go_sem] pd_ rd_ yd_ zd_ dd_ ed_ qd_ sd_
def kc_.l0 : Nat → List Int → Int → Int → Int → Option (Int)
 | 0, _, _, _, _ => none
 | k + 1, x0, x1, x7, x8 => if x8 < x7 then (if 0 ≤ x8 then (if x8 < (x0.length : Int) then (if x1 = (rd x0 x8) then (some x8) else (kc_.l0 k x0 x1 x7 (wrap64 (x8 + 1)))) else (none)) else (none)) else (some (-1))
def kc_.f (k : Nat) (l0 : List Int) (a1 : Int) : Option (Int) := kc_.l0 k l0 a1 (l0.length : Int) 0
theorem kc_.nd_ : ∀ k, (∀ y0 y1 y2 y3, LeO (kc_.l0 k y0 y1 y2 y3) (kc_.l0 (k + 1) y0 y1 y2 y3))
 | 0 => fun _ _ _ _ r h => by simp [kc_.l0] at h
 | k + 1 => by
  have ih0 := kc_.nd_ k
  intro y0 y1 y2 y3
  unfold kc_.l0
  exact Qr
theorem kc_.mono : ∀ a0 a1 k, LeO (kc_.f k a0 a1) (kc_.f (k + 1) a0 a1) := by
 intro a0 a1 k
 have ih0 := kc_.nd_ k
 unfold kc_.f
 exact Qr
set_option maxHeartbeats 8000000 in
set_option maxRecDepth 100000 in
theorem kc_.calls (k : Nat) (A0 : Option Addr) (c0 : Nat) (l0 : List Int) (a1 : Int) (r : Int) (w : World) (hr0 : Kd.C (Kd.int .i64) w A0 l0.length l0) (hc0 : l0.length ≤ c0) (h : kc_.f k l0 a1 = some r) :
  Calls Tryz.prog 94 #[.slice A0 l0.length c0, .int .i64 a1] w fun e w' => e = .returned (.int .i64 r) ∧ vb_ w w' := by
 have HR0 := ba_.mk hr0
 have HC0 := ba_.mk hc0
 clear hr0 hc0
 have H : (kc_.l0 k l0 a1 (l0.length : Int) 0) = some r := h
 clear h
 have H' := ba_.mk H
 clear H
 go_enter Tryz.func94, Tryz.ntmps94
 go_wp2
 go_loopg [8] k (fun kq v8 w' => ∃ (x8_1 : Int), v8 = .int .i64 x8_1 ∧ ba_ (kc_.l0 kq l0 a1 (l0.length : Int) x8_1 = some r) ∧ ba_ (kq ≤ k) ∧ vb_ w w')
 case atStart => exact ⟨(0), Ql, H', ⟨Nat.le_refl _⟩, Qx⟩
 case round =>
  clear H'
  try clear p2
  obtain ⟨x8_1, rfl, HA, HK1, ⟨m1, rfl⟩⟩ := hrel
  cases gk with
  | zero => exact absurd HA.out (by simp [kc_.l0])
  | succ k1 =>
   have H := HA.out
   clear HA
   simp only [kc_.l0] at H
   by_cases c3 : x8_1 < (l0.length : Int)
   rotate_left
   ·rw [if_neg c3] at H
    have c3b0 := decide_eq_false c3
    clear c3
    obtain rfl := Option.some.inj H
    go_wp2
    go_ret
    exact ⟨Ql, Qx⟩
   rw [if_pos c3] at H
   have c3b0 := decide_eq_true c3
   clear c3
   by_cases c4 : 0 ≤ x8_1
   rotate_left
   ·rw [if_neg c4] at H
    exact absurd H Qj
   rw [if_pos c4] at H
   have c4b0 := decide_eq_true c4
   clear c4
   obtain ⟨c5, H⟩ := Qq H
   have c5b0 := decide_eq_true c5
   clear c5
   by_cases c6 : a1 = (rd l0 x8_1)
   ·rw [if_pos c6] at H
    have c6b0 : (a1 == (rd l0 x8_1)) = true := beq_iff_eq.mpr c6
    have c6b1 : (a1 != (rd l0 x8_1)) = false := bne_eq_false_iff_eq.mpr c6
    clear c6
    obtain rfl := Option.some.inj H
    have p102 : 0 ≤ (x8_1 : Int) := of_decide_eq_true Qi
    have q102 : x8_1 < (l0.length : Int) := of_decide_eq_true Qi
    obtain ⟨ad102, e102, hx102_0⟩ := Kd.ee_ HR0.out x8_1 p102 q102
    cases e102
    replace p102 := eq_true p102
    replace q102 := eq_true q102
    go_wp2
    go_ret
    exact ⟨Ql, Qx⟩
   rw [if_neg c6] at H
   have c6b0 : (a1 == (rd l0 x8_1)) = false := beq_eq_false_iff_ne.mpr c6
   have c6b1 : (a1 != (rd l0 x8_1)) = true := bne_iff_ne.mpr c6
   have H' := ba_.mk H
   clear H
   have p102 : 0 ≤ (x8_1 : Int) := of_decide_eq_true Qi
   have q102 : x8_1 < (l0.length : Int) := of_decide_eq_true Qi
   obtain ⟨ad102, e102, hx102_0⟩ := Kd.ee_ HR0.out x8_1 p102 q102
   cases e102
   replace p102 := eq_true p102
   replace q102 := eq_true q102
   go_wp2
   go_roundg k1
   case measure => have := HK1.out; omega
   case rel => exact ⟨(wrap64 (x8_1 + 1)), Ql, H', ⟨Xf⟩, Qx⟩
def vc_.f (k : Nat) (l0 : List Int) (a1 : Int) : Option (Bool) := (kc_.f k l0 a1).bind fun t103 => (some (decide (t103 ≥ 0)))
theorem vc_.mono : ∀ a0 a1 k, LeO (vc_.f k a0 a1) (vc_.f (k + 1) a0 a1) := by
 intro a0 a1 k
 unfold vc_.f
 have m0 := kc_.mono
 exact Qr
set_option maxHeartbeats 8000000 in
set_option maxRecDepth 100000 in
theorem vc_.calls (k : Nat) (A0 : Option Addr) (c0 : Nat) (l0 : List Int) (a1 : Int) (r : Bool) (w : World) (hr0 : Kd.C (Kd.int .i64) w A0 l0.length l0) (hc0 : l0.length ≤ c0) (h : vc_.f k l0 a1 = some r) :
  Calls Tryz.prog 68 #[.slice A0 l0.length c0, .int .i64 a1] w fun e w' => e = .returned (.bool r) ∧ vb_ w w' := by
 have HR0 := ba_.mk hr0
 have HC0 := ba_.mk hc0
 clear hr0 hc0
 have H : ((kc_.f k l0 a1).bind fun t103 => (some (decide (t103 ≥ 0)))) = some r := h
 clear h
 obtain ⟨t103, A3, H⟩ := Qo H
 try dsimp only at H
 obtain rfl := Option.some.inj H
 go_enter Tryz.func68, Tryz.ntmps68
 go_wp2_with (first | ((with_reducible refine va_ (f := 94) rfl ?_); refine lc_ (some 7) rfl rfl Tryz.func94 Qb rfl #[.slice A0 l0.length c0, .int .i64 a1] rfl Qm ?_; (with_reducible refine (kc_.calls k _ _ l0 a1 t103 _ ?side1 ?side2 A3.out).mono ?_); (case side1 => exact X1); (case side2 => exact HC0.out); rintro e w' ⟨rfl, ⟨nd, rfl⟩⟩; refine ⟨_, rfl, ?_⟩))
 go_ret
 exact ⟨Ql, Qx⟩
mutual
def jc_.j0 : Nat → List Int → List Int → Bool → Option (List Int × Int)
 | 0, _, _, _ => none
 | k + 1, x0, x4, x18 => if x18 = true then (some (([] : List Int), 2)) else (if 6 ≤ 35184372088832 then ((some (List.replicate 6 0 : List Int)).bind fun y109 => (jc_.l0 k x0 x4 y109 (y109.length : Int) 0)) else (none))
def jc_.l0 : Nat → List Int → List Int → List Int → Int → Int → Option (List Int × Int)
 | 0, _, _, _, _, _ => none
 | k + 1, x0, x4, x5, x21, x22 => if x22 < x21 then (if 0 ≤ x22 then (if x22 < (x5.length : Int) then (jc_.l0 k x0 x4 (x5.set (x22 : Int).toNat (wrap64 ((x0.length : Int) + x22))) x21 (wrap64 (x22 + 1))) else (none)) else (none)) else ((fk_.f x4 x5).bind fun t113 => (some (t113, 0)))
end
def jc_.f (k : Nat) (l0 : List Int) : Option (List Int × Int) := (bv_.f l0).bind fun t104 => ((di_.f t104 (-1)).bind fun t107 => (if t107 = true then ((vc_.f k l0 (-1)).bind fun t108 => (jc_.j0 k l0 t104 t108)) else (jc_.j0 k l0 t104 true)))
theorem jc_.nd_ : ∀ k, (∀ y0 y1 y2, LeO (jc_.j0 k y0 y1 y2) (jc_.j0 (k + 1) y0 y1 y2)) ∧ (∀ y0 y1 y2 y3 y4, LeO (jc_.l0 k y0 y1 y2 y3 y4) (jc_.l0 (k + 1) y0 y1 y2 y3 y4))
 | 0 => ⟨fun _ _ _ r h => by simp [jc_.j0] at h, fun _ _ _ _ _ r h => by simp [jc_.l0] at h⟩
 | k + 1 => by
  obtain ⟨ih0, ih1⟩ := jc_.nd_ k
  refine ⟨?_, ?_⟩
  ·intro y0 y1 y2
   unfold jc_.j0
   have m0 := vc_.mono
   exact Qr
  intro y0 y1 y2 y3 y4
  unfold jc_.l0
  have m0 := vc_.mono
  exact Qr
theorem jc_.mono : ∀ a0 k, LeO (jc_.f k a0) (jc_.f (k + 1) a0) := by
 intro a0 k
 obtain ⟨ih0, ih1⟩ := jc_.nd_ k
 unfold jc_.f
 have m0 := vc_.mono
 exact Qr
set_option maxHeartbeats 8000000 in
set_option maxRecDepth 100000 in
theorem jc_.calls (k : Nat) (A0 : Option Addr) (c0 : Nat) (l0 : List Int) (r1 : List Int) (r2 : Int) (w : World) (hr0 : Kd.C (Kd.int .i64) w A0 l0.length l0) (hc0 : l0.length ≤ c0) (h : jc_.f k l0 = some (r1, r2)) :
  Calls Tryz.prog 37 #[.slice A0 l0.length c0] w fun e w' => ∃ v0_ : Value, e = .returned (.tuple #[v0_, .int .i64 r2]) ∧ Kd.R (Kd.int .i64) 3 w' w.heap.size (fun _ => True) v0_ r1 ∧ Below w.heap.size w w' := by
 have HR0 := ba_.mk hr0
 have HC0 := ba_.mk hc0
 clear hr0 hc0
 have HB := ba_.mk (Below.refl w.heap.size w)
 have H : ((bv_.f l0).bind fun t104 => ((di_.f t104 (-1)).bind fun t107 => (if t107 = true then ((vc_.f k l0 (-1)).bind fun t108 => (jc_.j0 k l0 t104 t108)) else (jc_.j0 k l0 t104 true)))) = some (r1, r2) := h
 clear h
 obtain ⟨t104, A2, H⟩ := Qo H
 try dsimp only at H
 have HC3 := ba_.mk H
 clear H
 go_enter Tryz.func37, Tryz.ntmps37
 go_upto_region 2 with (first | ((with_reducible refine ld_ (N := 8) rfl ?_); refine Kd.aq_ (Kd.int .i64) w.heap.size 3 rfl (N := 8) rfl (xs := ([-1] : List Int)) (inner := [.int .i64 (-1)]) (ok := fun _ => True) (okp := fun _ => True) ?hr ?hp (fun _ hk => hk) trivial HB.out (Nat.le_refl _) Qj ?_; (case hr => exact Qt); (case hp => exact (Reps.one (show Kd.M (Kd.int .i64) _ _ _ (-1) [.int .i64 (-1)] from rfl) (Reps.none _ _))); intro v8 w8 ho hb hg_ hnew_; clear hg_ hnew_; clear HB; obtain ⟨g8, co8, eo8, _, _, _⟩ := Kd.zi_ ho Qc; subst eo8; have HOa := ba_.mk ho; have HB := ba_.mk hb; clear ho hb) | ((with_reducible refine va_ (f := 67) rfl ?_); refine lc_ (some 9) rfl rfl Tryz.func67 Qb rfl #[.slice (some ⟨g8, 0, none⟩) 1 co8, .int .i64 6] rfl X5 ?_; (refine (qx_ (some ⟨g8, 0, none⟩) co8 (-1) _ (Kd.wb_ HOa.out).2.2 (Kd.wb_ HOa.out).2.1).mono ?_); rintro e w9 ⟨v9, rfl, ho, hb⟩; refine ⟨_, rfl, ?_⟩; obtain ⟨A9, co9, eo9⟩ := Kd.td_ ho; subst eo9; have HOb := ba_.mk ho; have n1_ := ba_.mk (hb_ HB.out hb); clear HB; have HB := n1_; clear n1_ ho hb) | ((with_reducible refine ld_ (N := 10) rfl ?_); refine xl_ (v := .slice (some ⟨w9.heap.size, 0, none⟩) 2 2) (w1 := w9.alloc (.cells #[.slice A0 l0.length c0, .slice A9 6 co9] 22)) rfl ?hr ?_; (case hr => exact Qt)) | ((with_reducible refine va_ (f := 66) rfl ?_); refine lc_ (some 11) rfl rfl Tryz.func66 Qb rfl #[.slice (some ⟨w9.heap.size, 0, none⟩) 2 2] rfl X5 ?_; (refine (wm_ A0 c0 l0 A9 co9 (List.replicate 6 (-1 : Int)) w9 (Kd.re_ HR0.out HB.out) HC0.out (Kd.wb_ HOb.out).2.2 (Kd.wb_ HOb.out).2.1 (by have := (bv_.some A2.out).2; simp only [List.length_replicate]; omega)).mono ?_); rintro e w10 ⟨v105, rfl, ho0, hb⟩; refine ⟨_, rfl, ?_⟩; have n0_ := ba_.mk (show Kd.R (Kd.int .i64) 3 w10 w.heap.size (fun _ => True) v105 t104 from by rw [(bv_.some A2.out).1]; exact Kd.xd_ ho0 (pb_ HB.out)); have n1_ := ba_.mk (hb_ HB.out hb); clear HB; have HO106 := n0_; have HB := n1_; clear n0_ n1_ ho0 hb))
 (try simp only [Act.put, List.setIfInBounds_toArray, List.set_cons_zero, List.set_cons_succ])
 go_cut [18] (fun v18 wc => ∃ (kq : Nat) (x18_2 : Bool), v18 = .bool x18_2 ∧ ba_ (jc_.j0 kq l0 t104 x18_2 = some (r1, r2)) ∧ ba_ (kq ≤ k) ∧ ba_ (Kd.R (Kd.int .i64) 3 wc w.heap.size (fun _ => True) v105 t104) ∧ ba_ (Below w.heap.size w wc))
 case first =>
  have H := HC3.out
  clear HC3
  obtain ⟨t107, A5, H⟩ := Qo H
  try dsimp only at H
  by_cases c6 : t107 = true
  rotate_left
  ·replace c6 := Bool.eq_false_iff.mpr c6
   subst c6
   have H1 : (jc_.j0 k l0 t104 true) = some (r1, r2) := by rw [if_neg (show ¬ (false = true) by decide)] at H; exact H
   clear H
   have H := H1
   clear H1
   have H' := ba_.mk H
   clear H
   obtain ⟨Ao10, co10, eo10⟩ := Kd.td_ HO106.out
   subst eo10
   go_wp2_with (first | ((with_reducible refine va_ (f := 44) rfl ?_); refine lc_ (some 13) rfl rfl Tryz.func44 Qb rfl #[.slice Ao10 t104.length co10, .int .i64 (-1)] rfl Qm ?_; (with_reducible refine (di_.calls _ _ t104 (-1) false _ ?side1 ?side2 A5.out).mono ?_); (case side1 => repeat (first | exact (Kd.wb_ HO106.out).2.2 | (with_reducible refine Kd.zc_ ?_ _) | (with_reducible refine Kd.ad_ ?_ _) | (with_reducible refine Kd.od_ ?_))); (case side2 => exact (Kd.wb_ HO106.out).2.1); rintro e w11 ⟨rfl, hb⟩; refine ⟨_, rfl, ?_⟩; have n0_ := ba_.mk (Kd.be_ (Qk HO106.out) hb); have n1_ := ba_.mk (hb_ Qh hb); clear HO106; clear HB; have HO106 := n0_; have HB := n1_; clear n0_ n1_; (try clear hb); (try clear hb2); (try clear hk); (try clear hi)))
   go_meet
   case rel => exact ⟨_, (true), Ql, H', ⟨Xu⟩, ⟨by (with_reducible repeat (first | apply Kd.bb_ | apply Kd.cb_ | apply Kd.sb_)); exact HO106.out⟩, ⟨Qh⟩⟩
  subst c6
  have H1 : ((vc_.f k l0 (-1)).bind fun t108 => (jc_.j0 k l0 t104 t108)) = some (r1, r2) := by rw [if_pos rfl] at H; exact H
  clear H
  have H := H1
  clear H1
  obtain ⟨t108, A7, H⟩ := Qo H
  try dsimp only at H
  have H' := ba_.mk H
  clear H
  obtain ⟨Ao8, co8, eo8⟩ := Kd.td_ HO106.out
  subst eo8
  go_wp2_with (first | ((with_reducible refine va_ (f := 44) rfl ?_); refine lc_ (some 13) rfl rfl Tryz.func44 Qb rfl #[.slice Ao8 t104.length co8, .int .i64 (-1)] rfl Qm ?_; (with_reducible refine (di_.calls _ _ t104 (-1) true _ ?side1 ?side2 A5.out).mono ?_); (case side1 => repeat (first | exact (Kd.wb_ HO106.out).2.2 | (with_reducible refine Kd.zc_ ?_ _) | (with_reducible refine Kd.ad_ ?_ _) | (with_reducible refine Kd.od_ ?_))); (case side2 => exact (Kd.wb_ HO106.out).2.1); rintro e w9 ⟨rfl, hb⟩; refine ⟨_, rfl, ?_⟩; have n0_ := ba_.mk (Kd.be_ (Qk HO106.out) hb); have n1_ := ba_.mk (hb_ Qh hb); clear HO106; clear HB; have HO106 := n0_; have HB := n1_; clear n0_ n1_; (try clear hb); (try clear hb2); (try clear hk); (try clear hi)) | (go_at_call 68; (with_reducible refine (vc_.calls k _ _ l0 (-1) t108 _ ?side1 ?side2 A7.out).mono ?_); (case side1 => exact Xc); (case side2 => exact HC0.out); rintro e w' ⟨rfl, ⟨nd, rfl⟩⟩))
  go_meet
  case rel => exact ⟨_, (t108), Ql, H', ⟨Xu⟩, ⟨by (with_reducible repeat (first | apply Kd.bb_ | apply Kd.cb_ | apply Kd.sb_)); exact HO106.out⟩, ⟨Qh⟩⟩
 case rest =>
  clear HC3
  try clear p2
  try clear c3
  try clear c4
  try clear c6
  obtain ⟨kq, x18_2, rfl, HA, HJ2, HO_4, HB⟩ := hcut
  cases kq with
  | zero => exact absurd HA.out (by simp [jc_.j0])
  | succ kj2 =>
   have H := HA.out
   clear HA
   simp only [jc_.j0] at H
   by_cases c12 : x18_2 = true
   ·subst c12
    have H1 : (some (([] : List Int), 2)) = some (r1, r2) := by rw [if_pos rfl] at H; exact H
    clear H
    have H := H1
    clear H1
    simp only [Option.some.injEq, Prod.mk.injEq] at H
    obtain ⟨rfl, rfl⟩ := H
    go_wp2
    go_ret2
    exact ⟨_, Qu, Q9, Qh⟩
   replace c12 := Bool.eq_false_iff.mpr c12
   subst c12
   have H1 : (if 6 ≤ 35184372088832 then ((some (List.replicate 6 0 : List Int)).bind fun y109 => (jc_.l0 kj2 l0 t104 y109 (y109.length : Int) 0)) else (none)) = some (r1, r2) := by rw [if_neg (show ¬ (false = true) by decide)] at H; exact H
   clear H
   have H := H1
   clear H1
   obtain ⟨c13, H⟩ := Qq H
   have c13b0 := eq_true c13
   have c13b1 := decide_eq_true c13
   clear c13
   obtain ⟨y109, hy109⟩ : ∃ y_ : List Int, y_ = (List.replicate 6 0) := ⟨_, rfl⟩
   replace H : (jc_.l0 kj2 l0 t104 y109 (y109.length : Int) 0) = some (r1, r2) := by first | (rw [hy109]; with_reducible exact H) | (have H2_ := (Option.bind_some _ _).symm.trans H; rw [hy109]; with_reducible exact H2_) | (have H2_ := (Option.bind_some _ _).symm.trans H; with_reducible exact H2_) | with_reducible exact H | (rw [hy109]; exact H) | exact H
   have Ny109 := ba_.mk hy109
   clear hy109
   have H' := ba_.mk H
   clear H
   go_wp2_with (first | ((with_reducible refine ld_ (N := 19) rfl ?_); refine Kd.bq_ (Kd.int .i64) _ 3 rfl (N := 19) rfl 22 _ _ rfl 6 rfl rfl Tryz.underlying22 (.int .i64 0) 8 zh_ rfl Qc Qa 0 (ok := fun _ => True) (okp := fun _ => True) rfl (fun _ hk => hk) trivial Qa Qa (Below.refl _ _) (Nat.le_refl _) ?_; intro v110 w14 ho15 hb hg_ hnew_; clear hg_ hnew_; (first | rw [← Ny109.out] at ho15 | (simp only [Int.reduceToNat] at ho15; rw [← Ny109.out] at ho15)); have n0_ := ba_.mk (Kd.ue_ (Qk HO_4.out) (Kd.cf_ ho15) hb); have n1_ := ba_.mk (Kd.xd_ (Kd.fg_ ho15 (Kd.R_lt (Qk HO_4.out))) (pb_ Qh)); have n2_ := ba_.mk (hb_ Qh hb); clear HO_4; clear HB; have HO_4 := n0_; have HO111 := n1_; have HB := n2_; clear n0_ n1_ n2_; clear hb ho15; obtain ⟨Ao16, co16, eo16⟩ := Kd.td_ HO111.out; subst eo16))
   go_loopg [22] kj2 (fun kq v22 w' => ∃ (x5_2 : List Int) (x22_2 : Int), v22 = .int .i64 x22_2 ∧ ba_ (jc_.l0 kq l0 t104 x5_2 (y109.length : Int) x22_2 = some (r1, r2)) ∧ ba_ (kq ≤ kj2) ∧ ba_ (Kd.R (Kd.int .i64) 3 w' w.heap.size (fun k_ => some k_ ≠ ((.slice Ao16 y109.length co16) : Value).ownBlock) v105 t104) ∧ ba_ (Kd.R (Kd.int .i64) 3 w' w.heap.size (fun k_ => some k_ ≠ (v105 : Value).ownBlock) (.slice Ao16 y109.length co16) x5_2) ∧ ba_ (Below w.heap.size w w'))
   case atStart => exact ⟨(y109), (0), Ql, H', ⟨Nat.le_refl _⟩, ⟨by (with_reducible repeat (first | apply Kd.bb_ | apply Kd.cb_ | apply Kd.sb_)); exact Kd.fd_ HO_4.out (fun _ hk => hk.2)⟩, ⟨by (with_reducible repeat (first | apply Kd.bb_ | apply Kd.cb_ | apply Kd.sb_)); exact Kd.fd_ HO111.out (fun _ hk => hk.2)⟩, ⟨Qh⟩⟩
   case round =>
    clear H'
    try clear c1
    try clear p2
    try clear c3
    try clear c4
    try clear c6
    try clear c12
    try clear c13
    try clear c13b0
    try clear c13b1
    try clear p2
    obtain ⟨x5_2, x22_2, rfl, HA, HK2, HO_4, HO_5, HB⟩ := hrel
    have hl5_2 := (Kd.wb_ HO_5.out).1
    rw [hl5_2] at HO_5
    (try simp only [hl5_2])
    (try simp only [hl5_2] at HO_4)
    cases gk with
    | zero => exact absurd HA.out (by simp [jc_.l0])
    | succ k2 =>
     have H := HA.out
     clear HA
     simp only [jc_.l0] at H
     by_cases c17 : x22_2 < (y109.length : Int)
     rotate_left
     ·rw [if_neg c17] at H
      have c17b0 := decide_eq_false c17
      (try simp only [hl5_2] at c17b0)
      clear c17
      obtain ⟨t113, A23, H⟩ := Qo H
      try dsimp only at H
      simp only [Option.some.injEq, Prod.mk.injEq] at H
      obtain ⟨rfl, rfl⟩ := H
      obtain ⟨Ao24, co24, eo24⟩ := Kd.td_ HO_4.out
      subst eo24
      go_wp2_with (first | ((with_reducible refine va_ (f := 69) rfl ?_); refine lc_ (some 35) rfl rfl Tryz.func69 Qb rfl #[.slice Ao24 t104.length co24, .slice Ao16 x5_2.length co16] rfl Qm ?_; (with_reducible refine (fk_.calls _ _ t104 _ _ x5_2 t113 _ ?side1 ?side2 ?side3 ?side4 A23.out).mono ?_); (case side1 => repeat (first | exact (Kd.wb_ HO_4.out).2.2 | (with_reducible refine Kd.zc_ ?_ _) | (with_reducible refine Kd.ad_ ?_ _) | (with_reducible refine Kd.od_ ?_))); (case side2 => exact (Kd.wb_ HO_4.out).2.1); (case side3 => exact Yy); (case side4 => exact (Kd.wb_ HO_5.out).2.1); rintro e w25 ⟨v114, rfl, ho0, hb⟩; refine ⟨_, rfl, ?_⟩; have n0_ := ba_.mk (Kd.ue_ (Qk HO_4.out) (Kd.cf_ ho0) hb); have n1_ := ba_.mk (Kd.ue_ (Qk HO_5.out) (Kd.cf_ ho0) hb); have n2_ := ba_.mk (Kd.xd_ (Kd.fg_ (Kd.fg_ ho0 (Kd.R_lt (Qk HO_4.out))) (Kd.R_lt (Qk HO_5.out))) (pb_ Qh)); have n3_ := ba_.mk (hb_ Qh hb); clear HO_4; clear HO_5; clear HB; have HO_4 := n0_; have HO_5 := n1_; have HO115 := n2_; have HB := n3_; clear n0_ n1_ n2_ n3_; (try clear hb); (try clear hb2); (try clear hk); (try clear hi); (try clear ho0)))
      go_ret2
      exact ⟨_, Qu, by (with_reducible repeat (first | apply Kd.bb_ | apply Kd.cb_ | apply Kd.sb_)); exact Kd.fd_ HO115.out (fun _ hk => trivial), Qh⟩
     rw [if_pos c17] at H
     have c17b0 := decide_eq_true c17
     (try simp only [hl5_2] at c17b0)
     clear c17
     obtain ⟨c18, H⟩ := Qq H
     have c18b0 := decide_eq_true c18
     clear c18
     obtain ⟨c19, H⟩ := Qq H
     have c19b0 := decide_eq_true c19
     clear c19
     obtain ⟨y112, hy112⟩ : ∃ y_ : List Int, y_ = (x5_2.set (x22_2 : Int).toNat (wrap64 ((l0.length : Int) + x22_2))) := ⟨_, rfl⟩
     replace H : (jc_.l0 k2 l0 t104 y112 (y109.length : Int) (wrap64 (x22_2 + 1))) = some (r1, r2) := by first | (rw [hy112]; with_reducible exact H) | (have H2_ := (Option.bind_some _ _).symm.trans H; rw [hy112]; with_reducible exact H2_) | (have H2_ := (Option.bind_some _ _).symm.trans H; with_reducible exact H2_) | with_reducible exact H | (rw [hy112]; exact H) | exact H
     have Ny112 := ba_.mk hy112
     clear hy112
     have H' := ba_.mk H
     clear H
     have p20 : 0 ≤ (x22_2 : Int) := of_decide_eq_true Qi
     have q20 : (x22_2 : Int) < ((x5_2.length : Int) : Int) := of_decide_eq_true Qi
     obtain ⟨go20, co20, eo20, gb20, gl20, cl20, HG20⟩ := Kd.zi_ HO_5.out Qa
     (first | cases eo20 | (injection eo20 with ea_ en_ ec_; (first | subst ea_ | (injection ea_ with ea_; subst ea_)); subst ec_; clear en_))
     have GB20 := ba_.mk gb20
     have GG20 := ba_.mk HG20
     clear gb20 gl20 HG20
     obtain ⟨hx20_0, hf20_0⟩ := Kd.ph_ 0 HO_5.out (x22_2 : Int) p20 q20
     replace p20 := eq_true p20
     replace q20 := eq_true q20
     have HP21 := Kd.R_putg HO_5.out (x22_2 : Int) (wrap64 ((l0.length : Int) + x22_2))
     go_wp2_with (first | ((with_reducible refine zk_ (t := 3) (p := 31) rfl ?_); refine yj_ (t := 3) (p := 31) (v := ?vo_w22) (w1 := (wr.setCell ⟨go20, (x22_2 : Int).toNat, none⟩ (.int .i64 (wrap64 ((l0.length : Int) + x22_2))))) ?hg ?ho ?hn ?hr ?_; (case ho => rfl); (case hg => rfl); (case hn => rfl); (case hr => exact Qt); intro w22 hw; have hg : wr.grownBy w22 (some go20) := (by rw [hw]; exact HP21.2); have hp_ : Kd.R (Kd.int .i64) 3 w22 w.heap.size (fun k_ => some k_ ≠ (v105 : Value).ownBlock) (.slice (some ⟨go20, 0, none⟩) x5_2.length co16) y112 := (by rw [hw, Ny112.out]; exact HP21.1); clear HP21; have n0_ := ba_.mk (Kd.oh_ (v := (.slice (some ⟨go20, 0, none⟩) x5_2.length co16)) (v1 := (.slice (some ⟨go20, 0, none⟩) x5_2.length co16)) (ok := (fun _ => True)) (by (with_reducible repeat (first | apply Kd.bb_ | apply Kd.cb_ | apply Kd.sb_)); exact Kd.fd_ HO_4.out (fun _ hk => ⟨trivial, hk⟩)) hg (.inl rfl)); have n1_ := ba_.mk (hp_); have n2_ := ba_.mk ((by rw [hw]; exact fa_ (HB.out) GB20.out : Below w.heap.size w w22)); clear HO_4; clear HO_5; clear HB; have HO_4 := n0_; have HO_5 := n1_; have HB := n2_; clear n0_ n1_ n2_; clear hg hw hp_))
     (try simp only [← hl5_2])
     go_roundg k2
     case measure => have := HJ2.out; have := HK2.out; omega
     case rel => exact ⟨(y112), (wrap64 (x22_2 + 1)), Ql, H', ⟨by have := HJ2.out; have := HK2.out; omega⟩, ⟨by (try simp only [hl5_2]); (with_reducible repeat (first | apply Kd.bb_ | apply Kd.cb_ | apply Kd.sb_)); exact Kd.fd_ HO_4.out (fun _ hk => hk.2)⟩, ⟨by (try simp only [hl5_2]); (with_reducible repeat (first | apply Kd.bb_ | apply Kd.cb_ | apply Kd.sb_)); exact HO_5.out⟩, ⟨Qh⟩⟩
end Go.Proofs.YtpkhgapifnjbeaaGreatDoor.E
end
section
namespace Go.Proofs.YtpkhgapifnjbeaaGreatDoor.E
open RowKit G Rs Zw.PrintWords Zw.PrintLast Zw.PrintMore
attribute [local go_sem] pd_ rd_ yd_ zd_ dd_ ed_ qd_ sd_
end Go.Proofs.YtpkhgapifnjbeaaGreatDoor.E
end
section
namespace Go.Proofs.YtpkhgapifnjbeaaGreatDoor.U
open RowKit G Rs Zw.PrintWords Zw.PrintLast Zw.PrintMore
attribute [local go_sem] pd_ rd_ yd_ zd_ dd_ ed_ qd_ sd_
end Go.Proofs.YtpkhgapifnjbeaaGreatDoor.U
end
section
namespace Go.Proofs.YtpkhgapifnjbeaaGreatDoor.U
open RowKit G Rs Zw.PrintWords Zw.PrintLast Zw.PrintMore
attribute [local go_sem] pd_ rd_ yd_ zd_ dd_ ed_ qd_ sd_
end Go.Proofs.YtpkhgapifnjbeaaGreatDoor.U
end
section
namespace Go.Proofs.YtpkhgapifnjbeaaGreatDoor.U
open RowKit G Rs Zw.PrintWords Zw.PrintLast Zw.PrintMore
attribute [local go_sem] pd_ rd_ yd_ zd_ dd_ ed_ qd_ sd_
end Go.Proofs.YtpkhgapifnjbeaaGreatDoor.U
end
section
namespace Go.Proofs.YtpkhgapifnjbeaaGreatDoor.G
open RowKit Zw.PrintWords Zw.PrintLast Zw.PrintMore Rs U
def errN (w c : List Int) : Nat → Nat
 | 0 => 0
 | m + 1 => errN w c m + if 0 ≤ w.getD m 0 ∧ w.getD m 0 ≠ c.getD m 0 then 1 else 0
def eraN (w : List Int) : Nat → List Int
 | 0 => []
 | m + 1 => eraN w m ++ if w.getD m 0 < 0 then [(m : Int)] else []
theorem ww_ (w : List Int) (m : Nat) : (eraN w m).length ≤ m := by
 induction m with
 | zero => exact Nat.le_refl _
 | succ m ih => simp only [eraN, List.length_append]; split <;> simp <;> omega
end Go.Proofs.YtpkhgapifnjbeaaGreatDoor.G
end
section
namespace Go.Proofs.YtpkhgapifnjbeaaGreatDoor.V
open RowKit G Rs Zw.PrintWords Zw.PrintLast Zw.PrintMore
attribute [local go_sem] pd_ rd_ yd_ zd_ dd_ ed_ qd_ sd_
end Go.Proofs.YtpkhgapifnjbeaaGreatDoor.V
end
section
namespace Go.Proofs.YtpkhgapifnjbeaaGreatDoor.V
open RowKit G Rs Zw.PrintWords Zw.PrintLast Zw.PrintMore
attribute [local go_sem] pd_ rd_ yd_ zd_ dd_ ed_ qd_ sd_
end Go.Proofs.YtpkhgapifnjbeaaGreatDoor.V
end
section
namespace Go.Proofs.YtpkhgapifnjbeaaGreatDoor.V
open RowKit G Rs Zw.PrintWords Zw.PrintLast Zw.PrintMore
attribute [local go_sem] pd_ rd_ yd_ zd_ dd_ ed_ qd_ sd_
end Go.Proofs.YtpkhgapifnjbeaaGreatDoor.V
end
section
namespace Go.Proofs.YtpkhgapifnjbeaaGreatDoor.G
open RowKit Zw.PrintWords Zw.PrintLast Zw.PrintMore Rs
def ij_ (d : List Int) : Bool := decide (1 ≤ d.length ∧ d.length ≤ 9) && d.all isEl
def oi_ (n : Nat) : List Int := [(n : Int), (n : Int) + 1, (n : Int) + 2, (n : Int) + 3, (n : Int) + 4, (n : Int) + 5]
def encW (d : List Int) : List Int := d ++ List.replicate 6 (-1)
def encC (d : List Int) : List Int := qn_ (encW d) (oi_ d.length)
def encS (d : List Int) : List Int × Int := if ij_ d = true then (encC d, 0) else ([], 2)
theorem pt_ (n k : Nat) (hk : k < 6) : (oi_ n).getD k 0 = (n : Int) + k := by
 rcases (show k = 0 ∨ k = 1 ∨ k = 2 ∨ k = 3 ∨ k = 4 ∨ k = 5 from by omega) with rfl | rfl | rfl | rfl | rfl | rfl <;> simp [oi_]
theorem im_ (n k : Nat) (hk : k < 6) : PS (oi_ n) k = n + k := by
 unfold PS; rw [pt_ n k hk]; omega
theorem bh_ (n : Nat) : (oi_ n).length = 6 := rfl
theorem uw_ (n L : Nat) (hL : L = n + 6) : bf_ L (oi_ n) := by
 refine ⟨⟨by rw [bh_]; exact Nat.le_refl _, fun k hk => ?_⟩, fun i j hi hj e => ?_⟩
 ·rw [bh_] at hk; rw [pt_ n k hk]; omega
 ·rw [bh_] at hi hj; rw [im_ n i hi, im_ n j hj] at e; omega
theorem xi_ (d : List Int) : (encW d).length = d.length + 6 := by simp [encW]
theorem gh_ {d : List Int} (h : ij_ d = true) : 1 ≤ d.length ∧ d.length ≤ 9 ∧ ∀ x ∈ d, isEl x = true := by
 unfold ij_ at h
 simp only [Bool.and_eq_true, decide_eq_true_eq, List.all_eq_true] at h
 exact ⟨h.1.1, h.1.2, h.2⟩
theorem ej1_ (d : List Int) (k : Nat) (hk : k < 6) : (encW d).getD (d.length + k) 0 = -1 := by
 unfold encW
 rw [List.getD_eq_getElem?_getD, List.getElem?_append_right Qa, Nat.add_sub_cancel_left, List.getElem?_replicate, if_pos hk]; rfl
theorem fj1_ (d : List Int) (i : Nat) (hi : i < d.length) : (encW d).getD i 0 = d.getD i 0 := by
 unfold encW
 rw [List.getD_eq_getElem?_getD, List.getElem?_append_left hi, ← List.getD_eq_getElem?_getD]
theorem on_ {d : List Int} (h : ij_ d = true) : yg_ (encW d) (oi_ d.length) (encC d) := by
 obtain ⟨h1, h2, h3⟩ := gh_ h
 have hl : (encW d).length ≤ 15 := by rw [xi_]; omega
 have hp := uw_ d.length (encW d).length (xi_ d)
 have hw : ∀ k, k < (oi_ d.length).length → -1 ≤ (encW d).getD (PS (oi_ d.length) k) 0 ∧ (encW d).getD (PS (oi_ d.length) k) 0 ≤ 31 := by
  intro k hk
  rw [bh_] at hk
  rw [im_ _ _ hk, ej1_ d k hk]; omega
 refine (py_ hl hp hw).resolve_left fun he => ?_
 have hs := tx_ (n := 6) (M := ig_ (matFill (encW d) (oi_ d.length) 6)) (ot_ (encW d) (oi_ d.length) (Nat.le_refl _)) (al_ hl hp)
 have : (qn_ (encW d) (oi_ d.length)).length = (encW d).length := by
  unfold qn_
  rw [if_pos (show (solR 6 (oi_ d.length).length (ig_ (matFill (encW d) (oi_ d.length) 6))).2 = true from hs), cp_]
 rw [he, xi_] at this
 simp at this
theorem oq_ {d : List Int} (h : ij_ d = true) : (encC d).length = d.length + 6 := by rw [(on_ h).len, xi_]
theorem nc1_ {d : List Int} (h : ij_ d = true) (i : Nat) (hi : i < d.length) : (encC d).getD i 0 = d.getD i 0 := by
 rw [(on_ h).agree i (by rw [xi_]; omega) (fun k hk => by rw [bh_] at hk; rw [im_ _ _ hk]; omega), fj1_ d i hi]
theorem ml_ {d : List Int} {x : Int} (h : x ∈ d) : ∃ i, i < d.length ∧ d.getD i 0 = x := by
 obtain ⟨i, hi, e⟩ := List.mem_iff_getElem.1 h
 exact ⟨i, hi, by rw [List.getD_eq_getElem?_getD, List.getElem?_eq_getElem hi]; exact e⟩
theorem rg_ {d : List Int} {i : Nat} (h : i < d.length) : d.getD i 0 ∈ d := by
 rw [List.getD_eq_getElem?_getD, List.getElem?_eq_getElem h]; exact List.getElem_mem _
theorem enc_el {d : List Int} (h : ij_ d = true) : ∀ x ∈ encC d, isEl x = true := by
 obtain ⟨h1, h2, h3⟩ := gh_ h
 intro x hx
 obtain ⟨i, hi, rfl⟩ := ml_ hx
 rw [oq_ h] at hi
 rcases Nat.lt_or_ge i d.length with hd | hd
 ·rw [nc1_ h i hd]; exact h3 _ (rg_ hd)
 have := (on_ h).els (i - d.length) (by rw [bh_]; omega)
 rwa [im_ _ _ Qa, show d.length + (i - d.length) = i from by omega] at this
theorem gu_ {c : List Int} {low : Int} (hl : 7 ≤ c.length ∧ c.length ≤ 15) (h : ∀ x ∈ c, low ≤ x ∧ x ≤ 31) : isWord c low = true := by
 unfold isWord
 simp only [Bool.and_eq_true, decide_eq_true_eq, Bool.not_eq_true', List.any_eq_false]
 refine ⟨hl, fun x hx => ?_⟩
 have := h x hx
 simp [ah_]; omega
theorem jf_ {c : List Int} {low : Int} (h : isWord c low = true) : 7 ≤ c.length ∧ c.length ≤ 15 ∧ ∀ x ∈ c, low ≤ x ∧ x ≤ 31 := by
 unfold isWord at h
 simp only [Bool.and_eq_true, decide_eq_true_eq, Bool.not_eq_true', List.any_eq_false] at h
 refine ⟨h.1.1, h.1.2, fun x hx => ?_⟩
 have := h.2 x hx
 simp [ah_] at this
 omega
theorem il_ {d : List Int} (h : ij_ d = true) : lf_ (encC d) = true := by
 obtain ⟨h1, h2, h3⟩ := gh_ h
 exact fc1_ (gu_ (by rw [oq_ h]; omega) (fun x hx => by have := (le_ x).1 (enc_el h x hx); omega)) (on_ h).cw
theorem rt_ {d : List Int} (h : ij_ d = true) : (encC d).take d.length = d := by
 apply List.ext_getElem (by rw [List.length_take, oq_ h]; omega)
 intro i h1 h2
 rw [List.getElem_take]
 have := nc1_ h i h2
 rwa [List.getD_eq_getElem?_getD, List.getD_eq_getElem?_getD, List.getElem?_eq_getElem h2, List.getElem?_eq_getElem (by rw [oq_ h]; omega)] at this
section
open E
theorem sf1_ (l : List Int) (hl : l.length ≤ 1000) : ∀ (d i k : Nat), i + d = l.length → d < k → (∀ j, j < i → l.getD j 0 ≠ -1) → ∃ v, kc_.l0 k l (-1) (l.length : Int) (i : Int) = some v ∧ (0 ≤ v ↔ ∃ x ∈ l, x = -1) := by
 intro d
 induction d with
 | zero =>
  intro i k hi hk hz
  obtain ⟨k, rfl⟩ : ∃ m, k = m + 1 := ⟨k - 1, Qa⟩
  simp only [kc_.l0]
  rw [if_neg Qa]
  refine ⟨-1, rfl, Qa, fun ⟨x, hx, e⟩ => ?_⟩
  obtain ⟨j, hj, rfl⟩ := ml_ hx
  exact absurd e (hz j Qa)
 | succ d ih =>
  intro i k hi hk hz
  obtain ⟨k, rfl⟩ : ∃ m, k = m + 1 := ⟨k - 1, Qa⟩
  have hs : wrap64 ((i : Int) + 1) = ((i + 1 : Nat) : Int) := by unfold wrap64; omega
  simp only [kc_.l0]
  rw [if_pos Qa, if_pos Qa, if_pos Qa, df_]
  by_cases h0 : -1 = l.getD i 0
  ·rw [if_pos h0]
   exact ⟨i, rfl, fun _ => ⟨l.getD i 0, rg_ Qa, h0.symm⟩, fun _ => by omega⟩
  rw [if_neg h0, hs]
  exact ih (i + 1) k Qa Qa fun j hj => by
   rcases Nat.lt_or_ge j i with h | h
   ·exact hz j h
   ·rw [show j = i from by omega]; exact fun q => h0 q.symm
theorem yz_ (l : List Int) (hl : l.length ≤ 1000) (k : Nat) (hk : 1002 ≤ k) : vc_.f k l (-1) = some (l.any fun x => decide (x = -1)) := by
 unfold vc_.f kc_.f
 obtain ⟨v, h1, h2⟩ := sf1_ l hl l.length 0 k Qa Qa (fun j hj => by omega)
 rw [show ((0 : Nat) : Int) = 0 from rfl] at h1
 rw [h1]
 simp only [Option.bind_some, Option.some.injEq]
 rw [Bool.eq_iff_iff]
 simp only [decide_eq_true_eq, List.any_eq_true]
 exact h2
def encTo (n : Nat) : Nat → List Int
 | 0 => List.replicate 6 0
 | i + 1 => (encTo n i).set i ((n : Int) + i)
theorem kc1_ (n i : Nat) : (encTo n i).length = 6 := by
 induction i with
 | zero => rfl
 | succ i ih => simp only [encTo, List.length_set, ih]
theorem lc1_ (n : Nat) : encTo n 6 = oi_ n := by simp [encTo, oi_, List.replicate]
theorem enc_l0 (d : List Int) (hd : d.length ≤ 9) : ∀ (e i k : Nat), i + e = 6 → e < k → jc_.l0 k d (encW d) (encTo d.length i) 6 (i : Int) = some (encC d, 0) := by
 intro e
 induction e with
 | zero =>
  intro i k hi hk
  obtain ⟨k, rfl⟩ : ∃ m, k = m + 1 := ⟨k - 1, Qa⟩
  obtain rfl : i = 6 := by omega
  simp only [jc_.l0]
  rw [if_neg Qa, lc1_, pq_ (encW d) (oi_ d.length) (by rw [xi_]; omega) (uw_ d.length _ (xi_ d)).1]
  rfl
 | succ e ih =>
  intro i k hi hk
  obtain ⟨k, rfl⟩ : ∃ m, k = m + 1 := ⟨k - 1, Qa⟩
  have hs : wrap64 ((i : Int) + 1) = ((i + 1 : Nat) : Int) := by unfold wrap64; omega
  have hs2 : wrap64 ((d.length : Int) + (i : Int)) = (d.length : Int) + i := by unfold wrap64; omega
  simp only [jc_.l0]
  rw [if_pos Qa, if_pos Qa, if_pos (by rw [kc1_]; omega), hs, hs2, Int.toNat_natCast]
  exact ih (i + 1) k Qa Qa
theorem mc1_ (d : List Int) : (isWord (encW d) (-1) = true ∧ (d.any fun x => decide (x = -1)) = false) ↔ ij_ d = true := by
 constructor
 ·rintro ⟨hw, ha⟩
  obtain ⟨h1, h2, h3⟩ := jf_ hw
  rw [xi_] at h1 h2
  unfold ij_
  simp only [Bool.and_eq_true, decide_eq_true_eq, List.all_eq_true]
  refine ⟨Qa, fun x hx => ?_⟩
  have h4 := h3 x (List.mem_append_left _ hx)
  have h5 := List.any_eq_false.1 ha x hx
  simp only [decide_eq_true_eq] at h5
  exact (le_ x).2 Qa
 intro h
 obtain ⟨h1, h2, h3⟩ := gh_ h
 refine ⟨gu_ (by rw [xi_]; omega) fun x hx => ?_, List.any_eq_false.2 fun x hx => ?_⟩
 ·rcases List.mem_append.1 hx with hx | hx
  ·have := (le_ x).1 (h3 x hx); omega
  ·have := (List.mem_replicate.1 hx).2; omega
 have := (le_ x).1 (h3 x hx)
 simp only [decide_eq_true_eq]; omega
theorem mf1_ (d : List Int) (hd : d.length ≤ 300) (k : Nat) (hk : 1100 ≤ k) : jc_.f k d = some (encS d) := by
 obtain ⟨k, rfl⟩ : ∃ m, k = m + 1 := ⟨k - 1, Qa⟩
 unfold jc_.f bv_.f
 rw [if_pos Qa]
 simp only [Option.bind_some]
 have hwe : di_.f (d ++ List.replicate 6 (-1)) (-1) = some (isWord (encW d) (-1)) := rfl
 rw [hwe]
 simp only [Option.bind_some]
 unfold encS
 have hiff := mc1_ d
 by_cases hw : isWord (encW d) (-1) = true
 rotate_left
 ·rw [if_neg hw, if_neg (fun h => hw (hiff.2 h).1)]
  simp only [jc_.j0]
  rw [if_pos trivial]
 rw [if_pos hw, yz_ d Qa (k + 1) Qa]
 simp only [Option.bind_some]
 by_cases ha : (d.any fun x => decide (x = -1)) = true
 ·rw [ha, if_neg (fun h => by have := (hiff.2 h).2; rw [ha] at this; cases this)]
  simp only [jc_.j0]
  rw [if_pos trivial]
 have hdat := hiff.1 ⟨hw, Bool.eq_false_iff.2 ha⟩
 rw [if_pos hdat]
 rw [show (d.any fun x => decide (x = -1)) = false from Bool.eq_false_iff.2 ha]
 simp only [jc_.j0]
 rw [if_neg Qj, if_pos Qa]
 simp only [Option.bind_some]
 exact enc_l0 d (gh_ hdat).2.1 6 0 k Qa Qa
end
end Go.Proofs.YtpkhgapifnjbeaaGreatDoor.G
end
section
namespace Go.Proofs.YtpkhgapifnjbeaaGreatDoor.G
open RowKit Rs
def posN (P : Nat → Bool) : Nat → List Int
 | 0 => []
 | m + 1 => posN P m ++ if P m = true then [(m : Int)] else []
theorem jg_ {P : Nat → Bool} {x : Int} : ∀ m, x ∈ posN P m ↔ ∃ i, i < m ∧ P i = true ∧ x = (i : Int) := by
 intro m
 induction m with
 | zero => simp [posN]
 | succ m ih =>
  simp only [posN, List.mem_append, ih]
  constructor
  ·rintro (⟨i, h1, h2, h3⟩ | h)
   ·exact ⟨i, Qa, h2, h3⟩
   ·by_cases hp : P m = true
    ·rw [if_pos hp] at h
     exact ⟨m, Qa, hp, List.mem_singleton.1 h⟩
    ·rw [if_neg hp] at h; cases h
  rintro ⟨i, h1, h2, h3⟩
  rcases Nat.lt_or_ge i m with h | h
  ·exact .inl ⟨i, h, h2, h3⟩
  obtain rfl : i = m := by omega
  exact .inr (by rw [if_pos h2]; exact List.mem_singleton.2 h3)
theorem lx_ (P : Nat → Bool) (m : Nat) : (posN P m).Pairwise (· < ·) := by
 induction m with
 | zero => exact List.Pairwise.nil
 | succ m ih =>
  simp only [posN]
  refine List.pairwise_append.2 ⟨ih, ?_, fun a ha b hb => ?_⟩
  ·split <;> simp
  obtain ⟨i, h1, _, rfl⟩ := (jg_ m).1 ha
  split at hb
  ·rw [List.mem_singleton.1 hb]; omega
  ·cases hb
theorem kx_ (P Q R : Nat → Bool) (h : ∀ i, P i = true → Q i = true ∨ R i = true) (m : Nat) : (posN P m).length ≤ (posN Q m).length + (posN R m).length := by
 induction m with
 | zero => simp [posN]
 | succ m ih =>
  simp only [posN, List.length_append]
  by_cases hp : P m = true
  rotate_left
  ·rw [if_neg hp]; simp only [List.length_nil]; omega
  rw [if_pos hp]
  rcases h m hp with h | h
  ·rw [if_pos h]; simp only [List.length_singleton]; omega
  ·rw [if_pos h]; simp only [List.length_singleton]; omega
theorem xq_ (P Q : Nat → Bool) (m : Nat) (h : ∀ i, i < m → P i = true → Q i = true) : (posN P m).length ≤ (posN Q m).length := by
 induction m with
 | zero => simp [posN]
 | succ m ih =>
  have := ih (fun i hi => h i Qa)
  simp only [posN, List.length_append]
  by_cases hp : P m = true
  ·rw [if_pos hp, if_pos (h m Qa hp)]; simp only [List.length_singleton]; omega
  ·rw [if_neg hp]; simp only [List.length_nil]; omega
theorem vp_ {n : Nat} {ps : List Int} (h6 : ps.length ≤ 6) (hs : ps.Nodup) (hr : ∀ x ∈ ps, 0 ≤ x ∧ x < n) : bf_ n ps := by
 refine ⟨⟨h6, fun k hk => hr _ (rg_ hk)⟩, fun i j hi hj e => ?_⟩
 have h1 := hr _ (rg_ hi)
 have h2 := hr _ (rg_ hj)
 have e2 : ps.getD i 0 = ps.getD j 0 := by unfold PS at e; omega
 rw [List.getD_eq_getElem?_getD, List.getD_eq_getElem?_getD, List.getElem?_eq_getElem hi, List.getElem?_eq_getElem hj] at e2
 have e3 := Option.some.inj (show some ps[i] = some ps[j] from by simpa using e2)
 rcases Nat.lt_trichotomy i j with h | h | h
 ·exact absurd e3 (List.pairwise_iff_getElem.1 hs i j hi hj h)
 ·exact h
 ·exact absurd e3.symm (List.pairwise_iff_getElem.1 hs j i hj hi h)
theorem qj_ (P : Nat → Bool) (m : Nat) : (posN P m).Nodup := (lx_ P m).imp (fun h => by omega)
theorem az_ {P : Nat → Bool} {n : Nat} (h6 : (posN P n).length ≤ 6) : bf_ n (posN P n) := vp_ h6 (qj_ P n) fun x hx => by
 obtain ⟨i, h1, _, rfl⟩ := (jg_ n).1 hx
 omega
theorem bs_ {ps : List Int} {i : Nat} (h : (i : Int) ∈ ps) : ∃ k, k < ps.length ∧ PS ps k = i := by
 obtain ⟨k, hk, e⟩ := ml_ h
 exact ⟨k, hk, by unfold PS; rw [e]; omega⟩
theorem xy_ {ps : List Int} {n k : Nat} (hp : eg_ n ps) (hk : k < ps.length) : ((PS ps k : Nat) : Int) ∈ ps := by
 have := hp.2 k hk
 unfold PS
 rw [Int.toNat_of_nonneg this.1]
 exact rg_ hk
theorem hi_ (w : List Int) (m : Nat) : eraN w m = posN (fun i => decide (w.getD i 0 < 0)) m := by
 induction m with
 | zero => rfl
 | succ m ih => simp only [eraN, posN, ih, decide_eq_true_eq]
theorem pp_ (w c : List Int) (m : Nat) : errN w c m = (posN (fun i => decide (0 ≤ w.getD i 0) && decide (w.getD i 0 ≠ c.getD i 0)) m).length := by
 induction m with
 | zero => rfl
 | succ m ih =>
  simp only [errN, posN, ih, List.length_append]
  congr 1
  by_cases h : 0 ≤ w.getD m 0 ∧ w.getD m 0 ≠ c.getD m 0
  ·rw [if_pos h, if_pos (by simp only [Bool.and_eq_true, decide_eq_true_eq]; exact h)]; rfl
  ·rw [if_neg h, if_neg (by simp only [Bool.and_eq_true, decide_eq_true_eq]; exact h)]; rfl
structure Near (w c : List Int) : Prop where
 code : lf_ c = true
 len : c.length = w.length
 near : 2 * errN w c w.length + (eraN w w.length).length ≤ 6
theorem jo_ {c : List Int} (h : lf_ c = true) (i : Nat) (hi : i < c.length) : isEl (c.getD i 0) = true := kn_ (uo_ (fh_ h).1).1 i hi
theorem rn_ {c c' ps : List Int} (h' : lf_ c' = true) (hp : bf_ c.length ps) (hl : c'.length = c.length) (ha : ∀ i, i < c.length → (i : Int) ∉ ps → c'.getD i 0 = c.getD i 0) : yg_ c ps c' :=
 ⟨hl, fun i hi hk => ha i hi (fun hm => by obtain ⟨k, h1, h2⟩ := bs_ hm; exact hk k h1 h2), fun k hk => jo_ h' _ (by rw [hl]; exact hp.lt hk), (fh_ h').2⟩
theorem gx_ {w c c' : List Int} (h : Near w c) (h' : Near w c') : c = c' := by
 obtain ⟨P, hP⟩ : ∃ P : Nat → Bool, P = fun i => decide (w.getD i 0 < 0) || ((decide (0 ≤ w.getD i 0) && decide (w.getD i 0 ≠ c.getD i 0)) || (decide (0 ≤ w.getD i 0) && decide (w.getD i 0 ≠ c'.getD i 0))) := ⟨_, rfl⟩
 have hn := h.near
 have hn' := h'.near
 have h6 : (posN P w.length).length ≤ 6 := by
  have a1 := kx_ P (fun i => decide (w.getD i 0 < 0)) (fun i => (decide (0 ≤ w.getD i 0) && decide (w.getD i 0 ≠ c.getD i 0)) || (decide (0 ≤ w.getD i 0) && decide (w.getD i 0 ≠ c'.getD i 0))) (fun i hi => by rw [hP] at hi; simpa [Bool.or_eq_true] using hi) w.length
  have a2 := kx_ (fun i => (decide (0 ≤ w.getD i 0) && decide (w.getD i 0 ≠ c.getD i 0)) || (decide (0 ≤ w.getD i 0) && decide (w.getD i 0 ≠ c'.getD i 0))) (fun i => decide (0 ≤ w.getD i 0) && decide (w.getD i 0 ≠ c.getD i 0)) (fun i => decide (0 ≤ w.getD i 0) && decide (w.getD i 0 ≠ c'.getD i 0)) (fun i hi => by simpa only [Bool.or_eq_true] using hi) w.length
  rw [← hi_] at a1
  rw [← pp_, ← pp_] at a2
  omega
 have hD : bf_ c.length (posN P w.length) := by rw [h.len]; exact az_ h6
 have hag : ∀ i, i < c.length → (i : Int) ∉ posN P w.length → c'.getD i 0 = c.getD i 0 := by
  intro i hi hm
  have hi' : P i ≠ true := fun hp => hm ((jg_ _).2 ⟨i, by rw [← h.len]; exact hi, hp, rfl⟩)
  rw [hP] at hi'
  have b1 : ¬ w.getD i 0 < 0 := fun q => hi' (by simp only [Bool.or_eq_true, Bool.and_eq_true, decide_eq_true_eq]; exact .inl q)
  have b2 : w.getD i 0 = c.getD i 0 := Classical.byContradiction fun q => hi' (by simp only [Bool.or_eq_true, Bool.and_eq_true, decide_eq_true_eq]; exact .inr (.inl ⟨Qa, q⟩))
  have b3 : w.getD i 0 = c'.getD i 0 := Classical.byContradiction fun q => hi' (by simp only [Bool.or_eq_true, Bool.and_eq_true, decide_eq_true_eq]; exact .inr (.inr ⟨Qa, q⟩))
  omega
 have hl := (uo_ (fh_ h.code).1).2.2
 exact yg_.uniq hl hD (rn_ h.code hD rfl (fun i hi _ => rfl)) (rn_ h'.code hD (by rw [h'.len, h.len]) hag)
end Go.Proofs.YtpkhgapifnjbeaaGreatDoor.G
end
section
namespace Go.Proofs.YtpkhgapifnjbeaaGreatDoor.G
open RowKit Zw.PrintWords Zw.PrintLast Zw.PrintMore Rs
open V
def difP (w c ps : List Int) (i : Nat) : Bool := decide ((i : Int) ∉ ps) && decide (w.getD i 0 ≠ c.getD i 0)
def difN (w c ps : List Int) : Nat := (posN (difP w c ps) w.length).length
theorem hh_ {w c ps : List Int} {i : Nat} : difP w c ps i = true ↔ (i : Int) ∉ ps ∧ w.getD i 0 ≠ c.getD i 0 := by
 unfold difP
 simp only [Bool.and_eq_true, decide_eq_true_eq]
theorem am_ {P : Nat → Bool} {m : Nat} (h : ∀ i, i < m → P i = false) : (posN P m).length = 0 := by
 induction m with
 | zero => rfl
 | succ m ih =>
  simp only [posN, List.length_append]
  rw [ih (fun i hi => h i Qa), if_neg (by rw [h m Qa]; simp)]; rfl
structure Srch (w ps : List Int) (more fr : Nat) : Prop where
 nodup : ps.Nodup
 rng : ∀ x ∈ ps, 0 ≤ x ∧ x < w.length
 era : ∀ i, i < w.length → w.getD i 0 < 0 → (i : Int) ∈ ps
 frm : ∀ i, fr ≤ i → i < w.length → (i : Int) ∈ ps → w.getD i 0 < 0
 len : ps.length + more ≤ 6
section
variable {w ps : List Int} {more fr : Nat}
theorem Srch.D (h : Srch w ps more fr) : bf_ w.length ps := vp_ (by have := h.len; omega) h.nodup h.rng
theorem Srch.el (hw : isWord w (-1) = true) (h : Srch w ps more fr) : tl_ (zeroTo w ps ps.length) = true := by
 obtain ⟨h1, h2, h3⟩ := jf_ hw
 refine List.all_eq_true.2 fun y hy => ?_
 obtain ⟨j, hj, rfl⟩ := ml_ hy
 rw [we_] at hj
 rw [ql_]
 by_cases hk : ∃ k, k < ps.length ∧ PS ps k = j
 ·obtain ⟨k, hk, rfl⟩ := hk
  rw [xj_ h.D _ _ _ (Nat.le_refl _) hk]; rfl
 have hk' : ∀ k, k < ps.length → PS ps k ≠ j := fun k hk1 e => hk ⟨k, hk1, e⟩
 rw [wi_ _ _ _ _ _ hk']
 have h4 := h3 _ (rg_ hj)
 have h5 : ¬ w.getD j 0 < 0 := fun q => by obtain ⟨k, a, b⟩ := bs_ (h.era j hj q); exact hk' k a b
 exact (le_ _).2 Qa
end
end Go.Proofs.YtpkhgapifnjbeaaGreatDoor.G
end
section
namespace Go.Proofs.YtpkhgapifnjbeaaGreatDoor.G
open RowKit Zw.PrintWords Zw.PrintLast Zw.PrintMore Rs
open V
open Classical in
noncomputable def decS (w : List Int) : List Int × Int × Int :=
 if isWord w (-1) = true then
  (if h : ∃ c, Near w c then ((Classical.choose h).take (w.length - 6), ((errN w (Classical.choose h) w.length : Nat) : Int), 0) else ([], 0, 25))
 else ([], 0, 2)
theorem jq_ {w c : List Int} (hw : isWord w (-1) = true) (h : Near w c) : decS w = (c.take (w.length - 6), ((errN w c w.length : Nat) : Int), 0) := by
 have h' : ∃ c, Near w c := ⟨c, h⟩
 unfold decS
 rw [if_pos hw, dif_pos h', gx_ (Classical.choose_spec h') h]
theorem np_ {w : List Int} (hw : isWord w (-1) = true) (h : ∀ c, ¬ Near w c) : decS w = ([], 0, 25) := by
 unfold decS
 rw [if_pos hw, dif_neg (fun ⟨c, hc⟩ => h c hc)]
theorem hy_ {w : List Int} (hw : ¬ isWord w (-1) = true) : decS w = ([], 0, 2) := by
 unfold decS
 rw [if_neg hw]
theorem xw_ (w c : List Int) : errN w c w.length = difN w c (eraN w w.length) := by
 rw [pp_, hi_]
 unfold difN
 apply Nat.le_antisymm
 ·refine xq_ _ _ _ fun i hi h => ?_
  simp only [Bool.and_eq_true, decide_eq_true_eq] at h
  refine hh_.2 ⟨fun hm => ?_, h.2⟩
  obtain ⟨j, _, h2, h3⟩ := (jg_ _).1 hm
  simp only [decide_eq_true_eq] at h2
  rw [show i = j from by omega] at h
  omega
 refine xq_ _ _ _ fun i hi h => ?_
 obtain ⟨a, b⟩ := hh_.1 h
 simp only [Bool.and_eq_true, decide_eq_true_eq]
 refine ⟨?_, b⟩
 rcases Int.lt_or_le (w.getD i 0) 0 with h0 | h0
 ·exact absurd ((jg_ _).2 ⟨i, hi, by simpa using h0, rfl⟩) a
 ·exact h0
theorem lo_ (w : List Int) (i : Nat) : (i : Int) ∈ eraN w w.length ↔ i < w.length ∧ w.getD i 0 < 0 := by
 rw [hi_, jg_]
 constructor
 ·rintro ⟨j, h1, h2, h3⟩
  rw [show i = j from by omega]
  exact ⟨h1, of_decide_eq_true h2⟩
 rintro ⟨h1, h2⟩
 exact ⟨i, h1, decide_eq_true h2, rfl⟩
end Go.Proofs.YtpkhgapifnjbeaaGreatDoor.G
end
section
namespace Go.Proofs.YtpkhgapifnjbeaaGreatDoor.G
open RowKit Rs
theorem lm_ (n : Nat) (f : Nat → GF) : gsum (n + 1) f = f 0 + gsum n (fun k => f (k + 1)) := by
 induction n with
 | zero => show gsum 0 f + f 0 = f 0 + 0; rw [GF.add_zero]; exact GF.zero_add _
 | succ n ih =>
  show gsum (n + 1) f + f (n + 1) = f 0 + (gsum n (fun k => f (k + 1)) + f (n + 1))
  rw [ih, GF.add_assoc]
theorem km_ (n : Nat) (c : GF) (f : Nat → GF) : gsum n (fun i => f i * c) = gsum n f * c := by
 rw [GF.mul_comm, ← ji_]
 exact id_ fun i _ => GF.mul_comm _ _
def pc (X : Nat → GF) : Nat → Nat → GF
 | 0, k => if k = 0 then 1 else 0
 | i + 1, k => pc X i k + (if k = 0 then 0 else pc X i (k - 1)) * X i
def prodX (X : Nat → GF) (z : GF) : Nat → GF
 | 0 => 1
 | i + 1 => prodX X z i * (z + X i)
theorem pc_hi (X : Nat → GF) : ∀ i k, i < k → pc X i k = 0 := by
 intro i
 induction i with
 | zero => intro k hk; simp only [pc]; rw [if_neg Qa]
 | succ i ih =>
  intro k hk
  simp only [pc]
  rw [ih k Qa, if_neg Qa, ih (k - 1) Qa, GF.zero_mul, GF.add_zero]
theorem wq_ (X : Nat → GF) (i : Nat) : pc X i 0 = 1 := by
 induction i with
 | zero => simp [pc]
 | succ i ih => simp only [pc]; rw [ih, if_pos trivial, GF.zero_mul, GF.add_zero]
theorem yd1_ (z : GF) (a : Nat) : GF.pw z (a + 1) = GF.pw z a * z := rfl
theorem mk1_ (X : Nat → GF) (z : GF) (i : Nat) : gsum (i + 1) (fun k => pc X i k * GF.pw z (i - k)) = prodX X z i := by
 induction i with
 | zero => simp only [gsum, pc, prodX]; rw [if_pos trivial]; exact (GF.zero_add _).trans (GF.mul_one _)
 | succ i ih =>
  have h1 : gsum (i + 2) (fun k => pc X (i + 1) k * GF.pw z (i + 1 - k)) = gsum (i + 2) (fun k => pc X i k * GF.pw z (i + 1 - k)) + gsum (i + 2) (fun k => (if k = 0 then 0 else pc X i (k - 1)) * X i * GF.pw z (i + 1 - k)) := by
   rw [← jl_]
   exact id_ fun k hk => by simp only [pc]; rw [GF.add_mul]
  have h2 : gsum (i + 2) (fun k => pc X i k * GF.pw z (i + 1 - k)) = prodX X z i * z := by
   show gsum (i + 1) _ + pc X i (i + 1) * _ = _
   rw [pc_hi X i (i + 1) Qa, GF.zero_mul, GF.add_zero, ← ih, ← km_]
   exact id_ fun k hk => by rw [show i + 1 - k = (i - k) + 1 from by omega, yd1_, GF.mul_assoc]
  have h3 : gsum (i + 2) (fun k => (if k = 0 then 0 else pc X i (k - 1)) * X i * GF.pw z (i + 1 - k)) = prodX X z i * X i := by
   rw [lm_ (i + 1), if_pos rfl, GF.zero_mul, GF.zero_mul, GF.zero_add, ← ih, ← km_]
   refine id_ fun k hk => ?_
   rw [if_neg Qa, Nat.add_sub_cancel, show i + 1 - (k + 1) = i - k from by omega]
   ac_rfl
  rw [h1, h2, h3]
  simp only [prodX]
  rw [GF.mul_add]
theorem mm_ (X : Nat → GF) (z : GF) (i : Nat) : prodX X z i = 0 ↔ ∃ t, t < i ∧ z = X t := by
 induction i with
 | zero => simp only [prodX]; exact ⟨fun h => absurd h GF.one_ne_zero, fun ⟨t, h, _⟩ => by omega⟩
 | succ i ih =>
  simp only [prodX]
  constructor
  ·intro h
   rcases GF.mul_eq_zero _ _ h with h | h
   ·obtain ⟨t, h1, h2⟩ := ih.1 h
    exact ⟨t, Qa, h2⟩
   ·exact ⟨i, Qa, GF.aj_ h⟩
  rintro ⟨t, h1, h2⟩
  rcases Nat.lt_or_ge t i with h | h
  ·rw [ih.2 ⟨t, h, h2⟩, GF.zero_mul]
  rw [show t = i from by omega] at h2
  rw [h2, GF.gi_, GF.mul_zero]
theorem roots (m : Nat) (Z : Nat → GF) (hz : ∀ t, t < m → Z t ≠ 0) (hi : ∀ i j, i < m → j < m → Z i = Z j → i = j) (d : Nat → GF) (h : ∀ t, t < m → gsum m (fun k => d k * GF.pw (Z t) k) = 0) : ∀ k, k < m → d k = 0 := by
 intro k0 hk0
 obtain ⟨M, hM⟩ : ∃ M : Nat → Nat → Int, M = fun j t => if t < m then ofG (GF.pw (Z t) j) else ofG (if j = k0 then 1 else 0) := ⟨_, rfl⟩
 have hMt : ∀ j t, t < m → toG (M j t) = GF.pw (Z t) j := fun j t ht => by rw [hM]; simp only; rw [if_pos ht, th_]
 have hMm : ∀ j, toG (M j m) = if j = k0 then 1 else 0 := fun j => by rw [hM]; simp only; rw [if_neg Qa, th_]
 have he : ElM m (m + 1) M := fun i k _ _ => by rw [hM]; simp only; split <;> exact kh_ _
 have hI : Indep m m M := fun y hy => by
  refine vand m Z y 0 hz hi fun j hj => ?_
  rw [← hy j hj]
  exact id_ fun t ht => by rw [hMt j t ht, Nat.zero_add]; exact GF.mul_comm _ _
 obtain ⟨M', _, _, _, _, hs⟩ := tq_ he hI
 have hy := (hs (fun i => toG (M' i m))).2 fun i hi => by rw [if_pos hi]
 obtain ⟨y, hyd⟩ : ∃ y : Nat → GF, y = fun i => toG (M' i m) := ⟨_, rfl⟩
 rw [← hyd] at hy
 have e1 : gsum m (fun t => y t * gsum m (fun k => d k * GF.pw (Z t) k)) = 0 := by
  rw [id_ (g := fun _ => 0) (fun t ht => by rw [h t ht, GF.mul_zero]), cj_]
 have e2 : gsum m (fun t => y t * gsum m (fun k => d k * GF.pw (Z t) k)) = gsum m (fun k => d k * gsum m (fun t => toG (M k t) * y t)) := by
  rw [id_ (g := fun t => gsum m (fun k => y t * (d k * GF.pw (Z t) k))) (fun t ht => (ji_ _ _ _).symm), un_]
  refine id_ fun k hk => ?_
  rw [← ji_]
  exact id_ fun t ht => by rw [hMt k t ht]; ac_rfl
 rw [e2, kl_ m _ k0 hk0 (fun k hk hne => by rw [hy k hk, hMm k, if_neg hne, GF.mul_zero]), hy k0 hk0, hMm k0, if_pos rfl, GF.mul_one] at e1
 exact e1
end Go.Proofs.YtpkhgapifnjbeaaGreatDoor.G
end
section
namespace Go.Proofs.YtpkhgapifnjbeaaGreatDoor.G
open RowKit Zw.PrintWords Zw.PrintLast Zw.PrintMore Rs
open L
theorem zn_ (n : Nat) (f : Nat → Int) : ((List.range n).map f).length = n := by simp
theorem tv_ (n j : Nat) (f g : Nat → Int) (x : Int) (hx : j < n → g j = x) (hg : ∀ i, i < n → i ≠ j → g i = f i) : ((List.range n).map f).set j x = (List.range n).map g := by
 apply List.ext_getElem
 ·simp
 intro i h1 h2
 rw [List.getElem_set]
 simp only [List.getElem_map, List.getElem_range]
 simp only [List.length_map, List.length_range] at h2
 by_cases e : j = i
 ·subst e; rw [if_pos rfl, hx h2]
 ·rw [if_neg e, hg i h2 (fun q => e q.symm)]
def sumI (n : Nat) (L : List Int) (i : Nat) : Nat → Int
 | 0 => 1
 | k + 1 => xorI (sumI n L i k) (mulI (L.getD k 0) (atI n (i : Int) (-(k : Int) - 1)))
def locP (l L : List Int) (i : Nat) : Bool := decide (l.getD i 0 ≠ -1) && decide (sumI l.length L i L.length = 0)
theorem mg1_ (P : Nat → Bool) (m : Nat) : (posN P m).length ≤ m := by
 induction m with
 | zero => exact Nat.le_refl _
 | succ m ih => simp only [posN, List.length_append]; split <;> simp <;> omega
theorem loc_l7 (l L : List Int) (n i : Nat) (hL : L.length ≤ 10) (hi : i < 100) (r : List Int × Bool) (K : Nat)
  (hc : ∀ k, K ≤ k → pa_.l6 k l (n : Int) L (posN (locP l L) (i + 1)) l (l.length : Int) ((i + 1 : Nat) : Int) = some r) :
  ∀ (d q k : Nat), q + d = L.length → K + d < k → pa_.l7 k l (n : Int) L (posN (locP l L) i) (i : Int) (l.getD i 0) (sumI l.length L i q) l (l.length : Int) (i : Int) L (L.length : Int) (q : Int) = some r := by
 have hs : wrap64 ((i : Int) + 1) = ((i + 1 : Nat) : Int) := by unfold wrap64; omega
 intro d
 induction d with
 | zero =>
  intro q k hq hk
  obtain ⟨k, rfl⟩ : ∃ m, k = m + 1 := ⟨k - 1, Qa⟩
  obtain rfl : q = L.length := by omega
  have hcc := hc k Qa
  simp only [posN] at hcc
  have hpl := mg1_ (locP l L) i
  simp only [pa_.l7]
  rw [if_neg Qa, hs]
  by_cases h1 : l.getD i 0 = -1
  ·rw [if_pos h1]
   rwa [if_neg (by unfold locP; simp only [Bool.and_eq_true, decide_eq_true_eq]; exact fun h => h.1 h1), List.append_nil] at hcc
  rw [if_neg h1]
  by_cases h2 : sumI l.length L i L.length = 0
  ·rw [if_pos h2, if_pos Qa]
   rwa [if_pos (by unfold locP; simp only [Bool.and_eq_true, decide_eq_true_eq]; exact ⟨h1, h2⟩)] at hcc
  rw [if_neg h2]
  rwa [if_neg (by unfold locP; simp only [Bool.and_eq_true, decide_eq_true_eq]; exact fun h => h2 h.2), List.append_nil] at hcc
 | succ d ih =>
  intro q k hq hk
  obtain ⟨k, rfl⟩ : ∃ m, k = m + 1 := ⟨k - 1, Qa⟩
  have hs2 : wrap64 ((q : Int) + 1) = ((q + 1 : Nat) : Int) := by unfold wrap64; omega
  have hs3 : wrap64 (wrap64 (-(q : Int)) - 1) = -(q : Int) - 1 := by unfold wrap64; omega
  simp only [pa_.l7]
  rw [if_pos Qa, if_pos Qa, if_pos Qa, df_, hs2, hs3]
  simp only [g_at.f, ch_.f, ii_.f, Option.bind_some]
  exact ih (q + 1) k Qa Qa
theorem loc_l6 (l L : List Int) (n : Nat) (hL : L.length ≤ 10) (hl : l.length ≤ 15) : ∀ (d i k : Nat), i + d = l.length → d * 20 + 1 < k → pa_.l6 k l (n : Int) L (posN (locP l L) i) l (l.length : Int) (i : Int) = some (posN (locP l L) l.length, (((posN (locP l L) l.length).length : Int) == (n : Int))) := by
 intro d
 induction d with
 | zero =>
  intro i k hi hk
  obtain ⟨k, rfl⟩ : ∃ m, k = m + 1 := ⟨k - 1, Qa⟩
  obtain rfl : i = l.length := by omega
  simp only [pa_.l6]
  rw [if_neg Qa]
 | succ d ih =>
  intro i k hi hk
  obtain ⟨k, rfl⟩ : ∃ m, k = m + 1 := ⟨k - 1, Qa⟩
  simp only [pa_.l6]
  rw [if_pos Qa, if_pos Qa, if_pos Qa, df_]
  exact loc_l7 l L n i hL Qa _ (d * 20 + 2) (fun k hk => ih (i + 1) k Qa Qa) L.length 0 k Qa Qa
def rowL (x : List Int) (n j : Nat) : List Int := (List.range n).map fun k => x.getD (j + n - 1 - k) 0
def matL (x : List Int) (n : Nat) : Nat → List (List Int)
 | 0 => []
 | j + 1 => matL x n j ++ [rowL x n j ++ [x.getD (j + n) 0]]
theorem ai_ (x : List Int) (n j : Nat) : (matL x n j).length = j := by
 induction j with
 | zero => rfl
 | succ j ih => simp [matL, ih]
theorem wt_ (x : List Int) (n : Nat) : ∀ (j i : Nat), i < j → (matL x n j).getD i [] = rowL x n i ++ [x.getD (i + n) 0] := by
 intro j
 induction j with
 | zero => intro i hi; omega
 | succ j ih =>
  intro i hi
  simp only [matL]
  rcases Nat.lt_or_ge i j with h | h
  ·rw [List.getD_eq_getElem?_getD, List.getElem?_append_left (by rw [ai_]; exact h), ← List.getD_eq_getElem?_getD, ih i h]
  obtain rfl : i = j := by omega
  rw [List.getD_eq_getElem?_getD, List.getElem?_append_right (by rw [ai_]; exact Nat.le_refl _), ai_]
  simp
theorem md1_ (x : List Int) (n R i k : Nat) (hi : i < R) : ig_ (matL x n R) i k = if k < n then x.getD (i + n - 1 - k) 0 else if k = n then x.getD (i + n) 0 else 0 := by
 unfold ig_
 rw [wt_ x n R i hi]
 by_cases h1 : k < n
 ·rw [if_pos h1, List.getD_eq_getElem?_getD, List.getElem?_append_left (by simpa [rowL] using h1)]
  unfold rowL
  rw [List.getElem?_map, List.getElem?_range h1]; rfl
 rw [if_neg h1]
 by_cases h2 : k = n
 ·rw [if_pos h2, List.getD_eq_getElem?_getD, List.getElem?_append_right (by simp [rowL]; omega)]
  simp [rowL, h2]
 ·rw [if_neg h2, List.getD_eq_getElem?_getD, List.getElem?_eq_none (by simp [rowL]; omega)]; rfl
theorem yk1_ (x : List Int) (n R : Nat) (hR : 1 ≤ R) (hR2 : R ≤ 100) (hn : n ≤ 100) : ui_.f (matL x n R) = some (solR R n (ig_ (matL x n R))) := by
 have hrow : ∀ y ∈ matL x n R, y.length = n + 1 := by
  intro y hy
  obtain ⟨i, hi, rfl⟩ := List.mem_iff_getElem.1 hy
  have := wt_ x n R i (by rwa [ai_] at hi)
  rw [List.getD_eq_getElem?_getD, List.getElem?_eq_getElem hi] at this
  simp only [Option.getD_some] at this
  rw [this]; simp [rowL]
 have hh : ((matL x n R).headD []).length = n + 1 := by
  have h0 := wt_ x n R 0 Qa
  rw [List.headD_eq_head?_getD, List.head?_eq_getElem?, ← List.getD_eq_getElem?_getD, h0]
  simp [rowL]
 unfold ui_.f
 rw [hh, if_pos (by unfold vs_; rw [ai_]; simp only [Bool.and_eq_true, decide_eq_true_eq, List.all_eq_true]; exact ⟨Qa, hrow⟩), ai_, Nat.add_sub_cancel]
def jv_ (l x : List Int) (n R : Nat) : List Int × Bool :=
 if (solR R n (ig_ (matL x n R))).2 = true then (posN (locP l (solR R n (ig_ (matL x n R))).1) l.length, (((posN (locP l (solR R n (ig_ (matL x n R))).1) l.length).length : Int) == (n : Int))) else ([], false)
theorem loc_l5 (l x : List Int) (n R j : Nat) (hx : x.length ≤ 6) (hn : n ≤ 6) (hj : j + n < x.length) (r : List Int × Bool) (K : Nat)
  (hc : ∀ k, K ≤ k → pa_.l4 k l (n : Int) x (matL x n (j + 1)) (R : Int) ((j + 1 : Nat) : Int) = some r) :
  ∀ (d q k : Nat), q + d = n → K + d < k → pa_.l5 k l (n : Int) x (matL x n j) (j : Int) ((List.range q).map fun k => x.getD (j + n - 1 - k) 0) ((q + 1 : Nat) : Int) (R : Int) (j : Int) = some r := by
 have hs : wrap64 ((j : Int) + 1) = ((j + 1 : Nat) : Int) := by unfold wrap64; omega
 have hs1 : wrap64 ((j : Int) + (n : Int)) = ((j + n : Nat) : Int) := by unfold wrap64; omega
 intro d
 induction d with
 | zero =>
  intro q k hq hk
  obtain ⟨k, rfl⟩ : ∃ m, k = m + 1 := ⟨k - 1, Qa⟩
  obtain rfl : q = n := by omega
  simp only [pa_.l5]
  rw [if_neg Qa, hs1, if_pos Qa, if_pos Qa, if_pos (by rw [zn_]; omega), if_pos (by rw [ai_]; omega), hs, df_]
  exact hc k Qa
 | succ d ih =>
  intro q k hq hk
  obtain ⟨k, rfl⟩ : ∃ m, k = m + 1 := ⟨k - 1, Qa⟩
  have hs2 : wrap64 (((q + 1 : Nat) : Int) + 1) = ((q + 1 + 1 : Nat) : Int) := by unfold wrap64; omega
  have hs3 : wrap64 (((j + n : Nat) : Int) - ((q + 1 : Nat) : Int)) = ((j + n - 1 - q : Nat) : Int) := by unfold wrap64; omega
  simp only [pa_.l5]
  rw [if_pos Qa, hs1, hs3, if_pos Qa, if_pos Qa, if_pos (by rw [zn_]; omega), hs2, df_]
  have := ih (q + 1) k Qa Qa
  rwa [List.range_succ, List.map_append] at this
theorem loc_l4 (l x : List Int) (n R : Nat) (hl : l.length ≤ 15) (hx : x.length ≤ 6) (hn : n ≤ 6) (hR : 1 ≤ R) (hRx : R + n = x.length) : ∀ (d j k : Nat), j + d = R → 400 + d * 20 < k → pa_.l4 k l (n : Int) x (matL x n j) (R : Int) (j : Int) = some (jv_ l x n R) := by
 intro d
 induction d with
 | zero =>
  intro j k hj hk
  obtain ⟨k, rfl⟩ : ∃ m, k = m + 1 := ⟨k - 1, Qa⟩
  obtain rfl : j = R := by omega
  simp only [pa_.l4]
  rw [if_neg Qa, yk1_ x n j hR Qa Qa]
  simp only [Option.bind_some]
  unfold jv_
  by_cases h2 : (solR j n (ig_ (matL x n j))).2 = true
  ·rw [if_pos h2, if_pos h2]
   exact loc_l6 l _ n (by rw [eu_ h2]; omega) hl l.length 0 k Qa Qa
  ·rw [if_neg h2, if_neg h2]
 | succ d ih =>
  intro j k hj hk
  obtain ⟨k, rfl⟩ : ∃ m, k = m + 1 := ⟨k - 1, Qa⟩
  simp only [pa_.l4]
  rw [if_pos Qa]
  exact loc_l5 l x n R j hx hn Qa _ (400 + d * 20 + 1) (fun k hk => ih (j + 1) k Qa Qa) n 0 k Qa Qa
end Go.Proofs.YtpkhgapifnjbeaaGreatDoor.G
end
section
namespace Go.Proofs.YtpkhgapifnjbeaaGreatDoor.G
open RowKit Zw.PrintWords Zw.PrintLast Zw.PrintMore Rs
open L
theorem wrap_add (a b : Nat) (h : a + b < 1000000) : wrap64 ((a : Int) + (b : Int)) = ((a + b : Nat) : Int) := by unfold wrap64; omega
theorem rz_ (a b : Nat) (h : b ≤ a) (h2 : a < 1000000) : wrap64 ((a : Int) - (b : Int)) = ((a - b : Nat) : Int) := by unfold wrap64; omega
def pk_ (X : Nat → GF) (m : Nat) : List Int := (List.range (m + 1)).map fun k => ofG (pc X m k)
def mixP (X : Nat → GF) (i c : Nat) : List Int := (List.range (i + 2)).map fun j => ofG (if c < j then pc X (i + 1) j else pc X i j)
def xv_ (l ps : List Int) (j k : Nat) : GF := gsum k (fun k => pc (XP l.length ps) ps.length k * psum l (j + ps.length - k + 1) l.length)
theorem za1_ (l ps : List Int) (j k : Nat) : xv_ l ps j (k + 1) = xv_ l ps j k + pc (XP l.length ps) ps.length k * psum l (j + ps.length - k + 1) l.length := rfl
theorem us_ (l ps : List Int) (j : Nat) : ofG (xv_ l ps j 0) = 0 := rfl
def tr_ (l ps : List Int) (j : Nat) : GF := xv_ l ps j (ps.length + 1)
def in_ (l ps : List Int) : List Int := (List.range (6 - ps.length)).map fun j => ofG (tr_ l ps j)
def locR (l ps : List Int) (n : Nat) : List Int × Bool := if n = 0 then ([], true) else jv_ l (in_ l ps) n (6 - ps.length - n)
theorem le1_ (l : List Int) (m : Nat) (hm : m < 6) : (synI l).getD m 0 = ofG (psum l (m + 1) l.length) := by
 unfold synI; rw [jh_ 6 m _ hm]
theorem rv_ (x : GF) : GF.pw x 1 = x := by show GF.pw x 0 * x = x; exact GF.one_mul x
theorem loc_l1 (l ps : List Int) (n i : Nat) (hl : l.length ≤ 15) (hp : eg_ l.length ps) (hi : i < ps.length) (r : List Int × Bool) (K : Nat)
  (hc : ∀ k, K ≤ k → pa_.l0 k l ps (n : Int) (pk_ (XP l.length ps) (i + 1)) ps (ps.length : Int) ((i + 1 : Nat) : Int) = some r) :
  ∀ (c k : Nat), c ≤ i + 1 → K + c < k → pa_.l1 k l ps (n : Int) (mixP (XP l.length ps) i c) (ps.getD i 0) (c : Int) ps (ps.length : Int) (i : Int) = some r := by
 obtain ⟨hp0, hp1⟩ := hp.2 i hi
 have h6 := hp.1
 have hs : wrap64 ((i : Int) + 1) = ((i + 1 : Nat) : Int) := by unfold wrap64; omega
 intro c
 induction c with
 | zero =>
  intro k hc' hk
  obtain ⟨k, rfl⟩ : ∃ m, k = m + 1 := ⟨k - 1, Qa⟩
  simp only [pa_.l1]
  rw [if_neg Qa, hs]
  have e : mixP (XP l.length ps) i 0 = pk_ (XP l.length ps) (i + 1) := by
   unfold mixP pk_
   refine List.map_congr_left fun j hj => ?_
   by_cases h0 : 0 < j
   ·rw [if_pos h0]
   ·rw [if_neg h0, show j = 0 from by omega, wq_, wq_]
  rw [e]
  exact hc k Qa
 | succ c ih =>
  intro k hc' hk
  obtain ⟨k, rfl⟩ : ∃ m, k = m + 1 := ⟨k - 1, Qa⟩
  have hs2 : wrap64 (((c + 1 : Nat) : Int) - 1) = (c : Int) := by unfold wrap64; omega
  have hlen : (mixP (XP l.length ps) i (c + 1)).length = i + 2 := by simp [mixP]
  simp only [pa_.l1]
  rw [if_pos Qa, if_pos Qa, if_pos (by rw [hlen]; omega), hs2, if_pos Qa, if_pos (by rw [hlen]; omega), df_, df_]
  simp only [g_at.f, ch_.f, ii_.f, Option.bind_some]
  have ha : atI l.length (ps.getD i 0) 1 = ofG (XP l.length ps i) := by
   have := dy_ (n := l.length) Qa hp0 hp1 1 Qa
   rw [rv_] at this
   exact this
  have e1 : (mixP (XP l.length ps) i (c + 1)).getD c 0 = ofG (pc (XP l.length ps) i c) := by
   unfold mixP; rw [jh_ _ c _ Qa, if_neg Qa]
  have e2 : (mixP (XP l.length ps) i (c + 1)).getD (c + 1) 0 = ofG (pc (XP l.length ps) i (c + 1)) := by
   unfold mixP; rw [jh_ _ (c + 1) _ Qa, if_neg Qa]
  rw [ha, e1, e2, yt_, fm_, Int.toNat_natCast]
  have e3 : (mixP (XP l.length ps) i (c + 1)).set (c + 1) (ofG (pc (XP l.length ps) i (c + 1) + pc (XP l.length ps) i c * XP l.length ps i)) = mixP (XP l.length ps) i c := by
   unfold mixP
   refine tv_ _ _ _ _ _ (fun _ => ?_) (fun j hj hne => ?_)
   ·rw [if_pos Qa]
    simp only [pc]
    rw [if_neg Qa, Nat.add_sub_cancel]
   by_cases h : c < j
   ·rw [if_pos h, if_pos Qa]
   ·rw [if_neg h, if_neg Qa]
  rw [e3]
  exact ih k Qa Qa
def dm_ (l ps : List Int) (j k : Nat) : List Int := (List.range (6 - ps.length)).map fun t => if t < j then ofG (tr_ l ps t) else if t = j then ofG (xv_ l ps j k) else 0
theorem loc_l3 (l ps : List Int) (n j : Nat) (hp : eg_ l.length ps) (hj : j < 6 - ps.length) (r : List Int × Bool) (K : Nat)
  (hc : ∀ k, K ≤ k → pa_.l2 k l ps (n : Int) (pk_ (XP l.length ps) ps.length) (synI l) (dm_ l ps (j + 1) 0) ((6 - ps.length : Nat) : Int) ((j + 1 : Nat) : Int) = some r) :
  ∀ (d q k : Nat), q + d = ps.length + 1 → K + d < k → pa_.l3 k l ps (n : Int) (pk_ (XP l.length ps) ps.length) (synI l) (dm_ l ps j q) (j : Int) ((6 - ps.length : Nat) : Int) (j : Int) (pk_ (XP l.length ps) ps.length) ((ps.length + 1 : Nat) : Int) (q : Int) = some r := by
 have h6 := hp.1
 have hs : wrap64 ((j : Int) + 1) = ((j + 1 : Nat) : Int) := by unfold wrap64; omega
 have hpl := Lib.hid (show (pk_ (XP l.length ps) ps.length).length = ps.length + 1 from by simp [pk_])
 have hsl := Lib.hid (show (synI l).length = 6 from by simp [synI])
 intro d
 induction d with
 | zero =>
  intro q k hq hk
  obtain ⟨k, rfl⟩ : ∃ m, k = m + 1 := ⟨k - 1, Qa⟩
  obtain rfl : q = ps.length + 1 := by omega
  simp only [pa_.l3]
  rw [if_neg Qa, hs]
  have e : dm_ l ps j (ps.length + 1) = dm_ l ps (j + 1) 0 := by
   unfold dm_
   refine List.map_congr_left fun t ht => ?_
   by_cases h1 : t < j
   ·rw [if_pos h1, if_pos Qa]
   rw [if_neg h1]
   by_cases h2 : t = j
   ·rw [if_pos h2, if_pos Qa, h2, tr_]
   rw [if_neg h2, if_neg Qa]
   by_cases h3 : t = j + 1
   ·rw [if_pos h3, us_]
   ·rw [if_neg h3]
  rw [e]
  exact hc k Qa
 | succ d ih =>
  intro q k hq hk
  obtain ⟨k, rfl⟩ : ∃ m, k = m + 1 := ⟨k - 1, Qa⟩
  have hs2 : wrap64 ((q : Int) + 1) = ((q + 1 : Nat) : Int) := by unfold wrap64; omega
  have hjo : j + ps.length ≤ 20 := by omega
  have hqo : q ≤ j + ps.length := by omega
  have hs4 : wrap64 ((j : Int) + (ps.length : Int)) = ((j + ps.length : Nat) : Int) := wrap_add j ps.length (Nat.lt_of_le_of_lt hjo Qc)
  have hs3 : wrap64 (((j + ps.length : Nat) : Int) - (q : Int)) = ((j + ps.length - q : Nat) : Int) := rz_ (j + ps.length) q hqo (Nat.lt_of_le_of_lt hjo Qc)
  have hq5 : j + ps.length - q < 6 := by omega
  have hrl := Lib.hid (show (dm_ l ps j q).length = 6 - ps.length from by simp [dm_])
  simp only [pa_.l3]
  rw [if_pos Qa, if_pos Qa, if_pos (by rw [hpl.out]; omega), if_pos Qa, if_pos (by rw [hrl.out]; omega), hs4, hs3, if_pos (Int.natCast_nonneg _), if_pos (by rw [hsl.out]; omega), df_, df_, df_, hs2]
  simp only [ch_.f, ii_.f, Option.bind_some]
  have e1 : (pk_ (XP l.length ps) ps.length).getD q 0 = ofG (pc (XP l.length ps) ps.length q) := by unfold pk_; rw [jh_ _ q _ Qa]
  have e2 : (dm_ l ps j q).getD j 0 = ofG (xv_ l ps j q) := by
   unfold dm_; rw [jh_ _ j _ hj, if_neg Qa, if_pos rfl]
  rw [e1, e2, le1_ l _ Qa, yt_, fm_, Int.toNat_natCast]
  have e3 : (dm_ l ps j q).set j (ofG (xv_ l ps j q + pc (XP l.length ps) ps.length q * psum l (j + ps.length - q + 1) l.length)) = dm_ l ps j (q + 1) := by
   unfold dm_
   refine tv_ _ _ _ _ _ (fun _ => ?_) (fun t ht hne => ?_)
   ·rw [if_neg Qa, if_pos rfl, za1_]
   by_cases h1 : t < j
   ·rw [if_pos h1, if_pos h1]
   ·rw [if_neg h1, if_neg h1, if_neg hne, if_neg hne]
  rw [e3]
  exact ih (q + 1) k Qa Qa
theorem loc_l2 (l ps : List Int) (n : Nat) (hl : l.length ≤ 15) (hp : eg_ l.length ps) (hn : ps.length + 2 * n ≤ 6) : ∀ (d j k : Nat), j + d = 6 - ps.length → 550 + d * 10 < k → pa_.l2 k l ps (n : Int) (pk_ (XP l.length ps) ps.length) (synI l) (dm_ l ps j 0) ((6 - ps.length : Nat) : Int) (j : Int) = some (locR l ps n) := by
 have h6 := hp.1
 intro d
 induction d with
 | zero =>
  intro j k hj hk
  obtain ⟨k, rfl⟩ : ∃ m, k = m + 1 := ⟨k - 1, Qa⟩
  obtain rfl : j = 6 - ps.length := by omega
  simp only [pa_.l2]
  rw [if_neg Qa]
  unfold locR
  by_cases h0 : n = 0
  ·rw [if_pos Qa, if_pos h0]
  rw [if_neg Qa, if_neg h0]
  have e : dm_ l ps (6 - ps.length) 0 = in_ l ps := by
   unfold dm_ in_
   refine List.map_congr_left fun t ht => ?_
   rw [if_pos (by simpa using ht)]
  have hrl := Lib.hid (show (in_ l ps).length = 6 - ps.length from by simp [in_])
  have hs : wrap64 (((in_ l ps).length : Int) - (n : Int)) = ((6 - ps.length - n : Nat) : Int) := by rw [hrl.out]; unfold wrap64; omega
  rw [e, hs]
  exact loc_l4 l (in_ l ps) n (6 - ps.length - n) hl (by rw [hrl.out]; omega) Qa Qa (by rw [hrl.out]; omega) (6 - ps.length - n) 0 k Qa Qa
 | succ d ih =>
  intro j k hj hk
  obtain ⟨k, rfl⟩ : ∃ m, k = m + 1 := ⟨k - 1, Qa⟩
  have hpl := Lib.hid (show (pk_ (XP l.length ps) ps.length).length = ps.length + 1 from by simp [pk_])
  simp only [pa_.l2]
  rw [if_pos Qa, hpl.out]
  exact loc_l3 l ps n j hp Qa _ (550 + d * 10 + 1) (fun k hk => ih (j + 1) k Qa Qa) (ps.length + 1) 0 k Qa Qa
theorem loc_l0 (l ps : List Int) (n : Nat) (hl : l.length ≤ 15) (hp : eg_ l.length ps) (hn : ps.length + 2 * n ≤ 6) : ∀ (d i k : Nat), i + d = ps.length → 620 + d * 10 < k → pa_.l0 k l ps (n : Int) (pk_ (XP l.length ps) i) ps (ps.length : Int) (i : Int) = some (locR l ps n) := by
 have h6 := hp.1
 intro d
 induction d with
 | zero =>
  intro i k hi hk
  obtain ⟨k, rfl⟩ : ∃ m, k = m + 1 := ⟨k - 1, Qa⟩
  obtain rfl : i = ps.length := by omega
  have hs : wrap64 (6 - (ps.length : Int)) = ((6 - ps.length : Nat) : Int) := by unfold wrap64; omega
  simp only [pa_.l0]
  rw [if_neg Qa]
  unfold nm_.f
  rw [if_pos hl]
  simp only [Option.bind_some]
  rw [hs, if_pos Qa, if_pos Qa, Int.toNat_natCast]
  have e : List.replicate (6 - ps.length) (0 : Int) = dm_ l ps 0 0 := by
   unfold dm_
   apply List.ext_getElem
   ·simp
   intro t h1 h2
   simp only [List.getElem_replicate, List.getElem_map, List.getElem_range]
   rw [if_neg Qa]
   by_cases h3 : t = 0
   ·rw [if_pos h3, us_]
   ·rw [if_neg h3]
  rw [List.length_replicate, e]
  exact loc_l2 l ps n hl hp hn (6 - ps.length) 0 k Qa Qa
 | succ d ih =>
  intro i k hi hk
  obtain ⟨k, rfl⟩ : ∃ m, k = m + 1 := ⟨k - 1, Qa⟩
  have hpl := Lib.hid (show (pk_ (XP l.length ps) i).length = i + 1 from by simp [pk_])
  simp only [pa_.l0]
  rw [if_pos Qa, if_pos Qa, if_pos Qa, if_pos (by rw [hpl.out]; omega)]
  simp only [Option.bind_some]
  have hs : wrap64 (((pk_ (XP l.length ps) i ++ [0]).length : Int) - 1) = ((i + 1 : Nat) : Int) := by
   rw [List.length_append, hpl.out, List.length_singleton]; unfold wrap64; omega
  have e : pk_ (XP l.length ps) i ++ [0] = mixP (XP l.length ps) i (i + 1) := by
   unfold pk_ mixP
   rw [List.range_succ (n := i + 1), List.map_append]
   congr 1
   ·refine List.map_congr_left fun j hj => ?_
    rw [if_neg (by have := List.mem_range.1 hj; omega)]
   simp only [List.map_cons, List.map_nil]
   rw [if_neg Qa, pc_hi _ _ _ Qa]; rfl
  rw [hs, e, df_]
  exact loc_l1 l ps n i hl hp Qa _ (620 + d * 10 + 1) (fun k hk => ih (i + 1) k Qa Qa) (i + 1) k (Nat.le_refl _) Qa
theorem loc_f (l ps : List Int) (n : Nat) (hl : l.length ≤ 15) (hp : eg_ l.length ps) (hn : ps.length + 2 * n ≤ 6) (k : Nat) (hk : 1000 ≤ k) : pa_.f k l ps (n : Int) = some (locR l ps n) := by
 have h6 := hp.1
 unfold pa_.f
 have e : ([1] : List Int) = pk_ (XP l.length ps) 0 := by
  simp only [pk_, List.range_succ, List.range_zero, List.nil_append, List.map_cons, List.map_nil, wq_]; rfl
 rw [e]
 exact loc_l0 l ps n hl hp hn ps.length 0 k Qa Qa
theorem ja1_ (l ps : List Int) (n : Nat) (hl : l.length ≤ 15) (hp : eg_ l.length ps) (hn : ps.length + 2 * n ≤ 6) : ax_.f l ps (n : Int) = some (locR l ps n) := loc_f l ps n hl hp hn 2000 Qa
end Go.Proofs.YtpkhgapifnjbeaaGreatDoor.G
end
