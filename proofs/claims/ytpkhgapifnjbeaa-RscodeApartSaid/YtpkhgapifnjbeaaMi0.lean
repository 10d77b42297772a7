/- A part of the proofs of this seat's statements (texts put together by pack2.py of this claim's repo). -/
import Derived.Test.YtpkhgapifnjbeaaProg
import Derived.Below
import Derived.Deep.Draws
import Derived.Deep.AppendLies
import Derived.Maps.AppendAt
import Derived.OwnWalk
import Derived.Laws.BytesArg
import Derived.Laws.MakeOwn
import Derived.Laws.OwnMore
import Derived.Deep.OwnRows
import Derived.Tactics
import Derived.Lib.ConvBytes
import Derived.Laws.Slices
import Derived.WalkKit
import Derived.KernelRfl
import Derived.RowKit3
import Derived.Deep.LoopGhost
import Derived.Deep.QuietTactic
import Derived.BigQuiet
import Derived.WideLaws
import Derived.Deep.DeepCutAuto
import Derived.Deep.CutBlock
import Derived.Deep.RegionHeld3
import Derived.Laws.Rows
import Derived.Lib.AppendStr
import Derived.ArgAppend
import Derived.Laws.IdiomCopy
import Derived.OrdersHeld
import Derived.Laws.BitsLemmas
import Derived.RowKit
import Derived.Test.YtpkhgapifnjbeaaRows
import Derived.ProofKit
import Derived.OpenShut
import Derived.ShutString
import Derived.ChangeOld
import Derived.SizedLaws
import Derived.Test.YtpkhgapifnjbeaaMB6
section
namespace Go.Proofs.Ytpkhgapifnjbeaa.Y
open Go.RowKit Go.Proofs.Ytpkhgapifnjbeaa.G Go.Proofs.Ytpkhgapifnjbeaa.Rs Go.Proofs.YtpkhgapifnjbeaaW.PrintWords Go.Proofs.YtpkhgapifnjbeaaW.PrintLast Go.Proofs.YtpkhgapifnjbeaaW.PrintMore
attribute [local go_sem] dd_ fd_ rd_ sd_ uc_ vc_ ed_ gd_
set_option linter.unusedVariables false
set_option linter.unusedSimpArgs false
def errW : Option Int → Value
 | none => .nilIface
 | some c => .iface 0 (.int .i64 c)
theorem bb_ : errW none = .nilIface := rfl
theorem cb_ (c : Int) : errW (some c) = .iface 0 (.int .i64 c) := rfl
theorem te_ : (Try.prog.info? 3).map (fun i => (i.zero, i.size, i.bytes)) = some (some (.int .i64 0), 1, 8) := by kernel_rfl
def re_ (xs : List (List Int)) (i : Int) : (List Int) := xs.getD i.toNat ([] : List Int)
theorem yk_ {w : World} {A : Option Addr} {n : Nat} {xs : List (List Int)} (h : Kd.C (Kd.slice 3 (Kd.int .i64)) w A n xs) (i : Int) (h0 : 0 ≤ i) (h1 : i < n) : ∃ ad A0 c0, A = some ad ∧ w.cell? (ad.add i.toNat) = some (.slice A0 (re_ xs i).length c0) ∧ (re_ xs i).length ≤ c0 ∧ (Kd.int .i64).C w A0 (re_ xs i).length (re_ xs i) := by
 obtain ⟨ad, c, e, _, hK, hc0⟩ := Kd.ai_ h ([] : List Int) i h0 h1
 have hc : ∀ j u, c[j]? = some u → w.cell? (ad.add (i.toNat * 1 + j)) = some u := hc0
 obtain ⟨A0, c0, rfl, l0, g0⟩ := hK
 exact ⟨ad, A0, c0, e, by have hq := hc 0 _ rfl; rwa [Nat.mul_one, Nat.add_zero] at hq, l0, g0⟩
end Go.Proofs.Ytpkhgapifnjbeaa.Y
end
section
namespace Go.Proofs.Ytpkhgapifnjbeaa.Y
open Go.RowKit Go.Proofs.Ytpkhgapifnjbeaa.G Go.Proofs.Ytpkhgapifnjbeaa.Rs Go.Proofs.YtpkhgapifnjbeaaW.PrintWords Go.Proofs.YtpkhgapifnjbeaaW.PrintLast Go.Proofs.YtpkhgapifnjbeaaW.PrintMore
attribute [local go_sem] dd_ fd_ rd_ sd_ uc_ vc_ ed_ gd_
set_option linter.unusedVariables false
set_option linter.unusedSimpArgs false
def ab_.f (a0 : Int) (a1 : Int) : Option (Int) := if a1 < 1 then (some 0) else (if a1 = 0 then (none) else (if (Int.tmod a0 a1) < 0 then (some (wrap64 ((Int.tmod a0 a1) + a1))) else (some (Int.tmod a0 a1))))
set_option maxHeartbeats 8000000 in
set_option maxRecDepth 100000 in
theorem ab_.calls (a0 : Int) (a1 : Int) (r : Int) (w : World) (h : ab_.f a0 a1 = some r) :
  Calls Try.prog 14 #[.int .i64 a0, .int .i64 a1] w fun e w' => e = .returned (.int .i64 r) ∧ ra_ w w' := by
 have H : (if a1 < 1 then (some 0) else (if a1 = 0 then (none) else (if (Int.tmod a0 a1) < 0 then (some (wrap64 ((Int.tmod a0 a1) + a1))) else (some (Int.tmod a0 a1))))) = some r := h
 clear h
 by_cases c3 : a1 < 1
 ·rw [if_pos c3] at H
  have c3b0 : decide (a1 < 1) = true := decide_eq_true c3
  clear c3
  obtain rfl := Option.some.inj H
  go_enter Try.func14, Try.ntmps14
  go_wp2
  go_ret
  exact ⟨by first | rfl | (simp; done) | (simp [*]; done), by repeat (first | exact ra_.refl _ | apply ra_.step)⟩
 ·rw [if_neg c3] at H
  have c3b0 : decide (a1 < 1) = false := decide_eq_false c3
  clear c3
  by_cases c4 : a1 = 0
  ·rw [if_pos c4] at H
   exact absurd H (by simp)
  ·rw [if_neg c4] at H
   have c4b0 : (a1 == 0) = false := beq_eq_false_iff_ne.mpr c4
   have c4b1 : (a1 != 0) = true := bne_iff_ne.mpr c4
   by_cases c5 : (Int.tmod a0 a1) < 0
   ·rw [if_pos c5] at H
    have c5b0 : decide ((Int.tmod a0 a1) < 0) = true := decide_eq_true c5
    clear c5
    obtain rfl := Option.some.inj H
    go_enter Try.func14, Try.ntmps14
    go_wp2
    go_ret
    exact ⟨by first | rfl | (simp; done) | (simp [*]; done), by repeat (first | exact ra_.refl _ | apply ra_.step)⟩
   ·rw [if_neg c5] at H
    have c5b0 : decide ((Int.tmod a0 a1) < 0) = false := decide_eq_false c5
    clear c5
    obtain rfl := Option.some.inj H
    go_enter Try.func14, Try.ntmps14
    go_wp2
    go_ret
    exact ⟨by first | rfl | (simp; done) | (simp [*]; done), by repeat (first | exact ra_.refl _ | apply ra_.step)⟩
def aa_.l0 : Nat → List Int → List Int → Int → Option (Bool)
 | 0, _, _, _ => none
 | k + 1, x0, x1, x5 => if x5 < (x0.length : Int) then (if 0 ≤ x5 then (if x5 < (x1.length : Int) then (if (rd x0 x5) = (rd x1 x5) then (aa_.l0 k x0 x1 (wrap64 (x5 + 1))) else (some false)) else (none)) else (none)) else (some true)
def aa_.f (k : Nat) (l0 : List Int) (l1 : List Int) : Option (Bool) := if (l0.length : Int) = (l1.length : Int) then (aa_.l0 k l0 l1 0) else (some false)
theorem aa_.xc_ : ∀ k, (∀ y0 y1 y2, LeO (aa_.l0 k y0 y1 y2) (aa_.l0 (k + 1) y0 y1 y2))
 | 0 => fun _ _ _ r h => by simp [aa_.l0] at h
 | k + 1 => by
  have ih0 := aa_.xc_ k
  ·intro y0 y1 y2
   unfold aa_.l0
   repeat' first
   | (with_reducible exact ih0 _ _ _)
   | (with_reducible exact LeO.refl _)
   | (with_reducible exact LeO.none _)
   | (with_reducible refine LeO.ite ?_ ?_)
   | (with_reducible refine LeO.bind ?_ (fun _ => ?_))
   | exact ih0 _ _ _
   | exact LeO.none _
   | refine LeO.ite ?_ ?_
   | refine LeO.bind ?_ (fun _ => ?_)
theorem aa_.mono : ∀ a0 a1 k, LeO (aa_.f k a0 a1) (aa_.f (k + 1) a0 a1) := by
 intro a0 a1 k
 have ih0 := aa_.xc_ k
 unfold aa_.f
 repeat' first
   | (with_reducible exact ih0 _ _ _)
   | (with_reducible exact LeO.refl _)
   | (with_reducible exact LeO.none _)
   | (with_reducible refine LeO.ite ?_ ?_)
   | (with_reducible refine LeO.bind ?_ (fun _ => ?_))
   | exact ih0 _ _ _
   | exact LeO.none _
   | refine LeO.ite ?_ ?_
   | refine LeO.bind ?_ (fun _ => ?_)
set_option maxHeartbeats 8000000 in
set_option maxRecDepth 100000 in
theorem aa_.calls (k : Nat) (A0 : Option Addr) (c0 : Nat) (l0 : List Int) (A1 : Option Addr) (c1 : Nat) (l1 : List Int) (r : Bool) (w : World) (hr0 : Kd.C (Kd.int .i64) w A0 l0.length l0) (hc0 : l0.length ≤ c0) (hr1 : Kd.C (Kd.int .i64) w A1 l1.length l1) (hc1 : l1.length ≤ c1) (h : aa_.f k l0 l1 = some r) :
  Calls Try.prog 29 #[.slice A0 l0.length c0, .slice A1 l1.length c1] w fun e w' => e = .returned (.bool r) ∧ ra_ w w' := by
 have HR0 := ba_.mk hr0
 have HC0 := ba_.mk hc0
 clear hr0 hc0
 have HR1 := ba_.mk hr1
 have HC1 := ba_.mk hc1
 clear hr1 hc1
 have H : (if (l0.length : Int) = (l1.length : Int) then (aa_.l0 k l0 l1 0) else (some false)) = some r := h
 clear h
 by_cases c3 : (l0.length : Int) = (l1.length : Int)
 ·rw [if_pos c3] at H
  have c3b0 : ((l0.length : Int) == (l1.length : Int)) = true := beq_iff_eq.mpr c3
  try have c3b9 := eq_true (beq_iff_eq.mp c3b0)
  have c3b1 : ((l0.length : Int) != (l1.length : Int)) = false := bne_eq_false_iff_eq.mpr c3
  have c3b2 : (l0.length == l1.length) = true := by first | simpa using c3 | (simp at c3 ⊢; omega)
  clear c3
  have H' := ba_.mk H
  clear H
  go_enter Try.func29, Try.ntmps29
  go_wp2
  repeat (go_quiet (fail); try go_wp2)
  go_loopg [5] k (fun kq v5 w' => ∃ (x5_1 : Int), v5 = .int .i64 x5_1 ∧ ba_ (aa_.l0 kq l0 l1 x5_1 = some r) ∧ ba_ (kq ≤ k) ∧ ra_ w w')
  case atStart => exact ⟨(0), (by first | rfl | (simp; done) | (simp [*]; done)), H', ⟨Nat.le_refl _⟩, by repeat (first | exact ra_.refl _ | apply ra_.step)⟩
  case round =>
   clear H'
   try clear c1
   try clear c2
   try clear p2
   try clear c3
   try clear c3b0
   try clear c3b1
   try clear c3b2
   obtain ⟨x5_1, rfl, HA, HK1, ⟨m1, rfl⟩⟩ := hrel
   cases gk with
   | zero => exact absurd HA.out (by simp [aa_.l0])
   | succ k1 =>
    have H := HA.out
    clear HA
    simp only [aa_.l0] at H
    by_cases c4 : x5_1 < (l0.length : Int)
    ·rw [if_pos c4] at H
     have c4b0 : decide (x5_1 < (l0.length : Int)) = true := decide_eq_true c4
     clear c4
     by_cases c5 : 0 ≤ x5_1
     ·rw [if_pos c5] at H
      have c5b0 : decide (0 ≤ x5_1) = true := decide_eq_true c5
      clear c5
      by_cases c6 : x5_1 < (l1.length : Int)
      ·rw [if_pos c6] at H
       have c6b0 : decide (x5_1 < (l1.length : Int)) = true := decide_eq_true c6
       clear c6
       by_cases c7 : (rd l0 x5_1) = (rd l1 x5_1)
       ·rw [if_pos c7] at H
        have c7b0 : ((rd l0 x5_1) == (rd l1 x5_1)) = true := beq_iff_eq.mpr c7
        try have c7b9 := eq_true (beq_iff_eq.mp c7b0)
        have c7b1 : ((rd l0 x5_1) != (rd l1 x5_1)) = false := bne_eq_false_iff_eq.mpr c7
        clear c7
        have H' := ba_.mk H
        clear H
        have p101 : 0 ≤ (x5_1 : Int) := of_decide_eq_true (by first | (with_reducible assumption) | assumption)
        have q101 : x5_1 < (l0.length : Int) := of_decide_eq_true (by first | (with_reducible assumption) | assumption)
        obtain ⟨ad101, e101, hx101_0⟩ := Kd.nd_ HR0.out x5_1 p101 q101
        cases e101
        replace p101 := eq_true p101
        replace q101 := eq_true q101
        have p102 : 0 ≤ (x5_1 : Int) := of_decide_eq_true (by first | (with_reducible assumption) | assumption)
        have q102 : x5_1 < (l1.length : Int) := of_decide_eq_true (by first | (with_reducible assumption) | assumption)
        obtain ⟨ad102, e102, hx102_0⟩ := Kd.nd_ HR1.out x5_1 p102 q102
        cases e102
        replace p102 := eq_true p102
        replace q102 := eq_true q102
        go_wp2
        repeat (go_quiet (fail); try go_wp2)
        go_roundg k1
        case measure => have := HK1.out; omega
        case rel => exact ⟨(wrap64 (x5_1 + 1)), (by first | rfl | (simp; done) | (simp [*]; done)), H', ⟨by have := HK1.out; omega⟩, by repeat (first | exact ra_.refl _ | apply ra_.step)⟩
       ·rw [if_neg c7] at H
        have c7b0 : ((rd l0 x5_1) == (rd l1 x5_1)) = false := beq_eq_false_iff_ne.mpr c7
        try have c7b9 := eq_false (beq_eq_false_iff_ne.mp c7b0)
        have c7b1 : ((rd l0 x5_1) != (rd l1 x5_1)) = true := bne_iff_ne.mpr c7
        obtain rfl := Option.some.inj H
        have p101 : 0 ≤ (x5_1 : Int) := of_decide_eq_true (by first | (with_reducible assumption) | assumption)
        have q101 : x5_1 < (l0.length : Int) := of_decide_eq_true (by first | (with_reducible assumption) | assumption)
        obtain ⟨ad101, e101, hx101_0⟩ := Kd.nd_ HR0.out x5_1 p101 q101
        cases e101
        replace p101 := eq_true p101
        replace q101 := eq_true q101
        have p102 : 0 ≤ (x5_1 : Int) := of_decide_eq_true (by first | (with_reducible assumption) | assumption)
        have q102 : x5_1 < (l1.length : Int) := of_decide_eq_true (by first | (with_reducible assumption) | assumption)
        obtain ⟨ad102, e102, hx102_0⟩ := Kd.nd_ HR1.out x5_1 p102 q102
        cases e102
        replace p102 := eq_true p102
        replace q102 := eq_true q102
        go_wp2
        repeat (go_quiet (fail); try go_wp2)
        go_ret
        exact ⟨by first | rfl | (simp; done) | (simp [*]; done), by repeat (first | exact ra_.refl _ | apply ra_.step)⟩
      ·rw [if_neg c6] at H
       exact absurd H (by simp)
     ·rw [if_neg c5] at H
      exact absurd H (by simp)
    ·rw [if_neg c4] at H
     have c4b0 : decide (x5_1 < (l0.length : Int)) = false := decide_eq_false c4
     clear c4
     obtain rfl := Option.some.inj H
     go_wp2
     repeat (go_quiet (fail); try go_wp2)
     go_ret
     exact ⟨by first | rfl | (simp; done) | (simp [*]; done), by repeat (first | exact ra_.refl _ | apply ra_.step)⟩
 ·rw [if_neg c3] at H
  have c3b0 : ((l0.length : Int) == (l1.length : Int)) = false := beq_eq_false_iff_ne.mpr c3
  try have c3b9 := eq_false (beq_eq_false_iff_ne.mp c3b0)
  have c3b1 : ((l0.length : Int) != (l1.length : Int)) = true := bne_iff_ne.mpr c3
  have c3b2 : (l0.length == l1.length) = false := by first | simpa using c3 | (simp at c3 ⊢; omega)
  obtain rfl := Option.some.inj H
  go_enter Try.func29, Try.ntmps29
  go_wp2
  repeat (go_quiet (fail); try go_wp2)
  go_ret
  exact ⟨by first | rfl | (simp; done) | (simp [*]; done), by repeat (first | exact ra_.refl _ | apply ra_.step)⟩
def ha_.f (k : Nat)  : Option (Bool) := (ge_.f (([3, 1] : List Int))).bind fun bt106 => ((je_.f bt106.1).bind fun bt110 => ((ud_.f 16 2).bind fun t115 => (if t115 = 5 then ((nc_.f 2).bind fun t116 => (if t116 = 18 then (if bt106.2 = 0 then (if (bt106.1.length : Int) = 8 then ((ee_.f bt106.1).bind fun t117 => (if t117 = true then (if bt110.2.2 = 0 then (if bt110.2.1 = 0 then ((aa_.f k bt110.1 (([3, 1] : List Int))).bind fun t121 => (some t121)) else (some false)) else (some false)) else (some false))) else (some false)) else (some false)) else (some false))) else (some false))))
theorem ha_.mono : ∀ k, LeO (ha_.f k ) (ha_.f (k + 1) ) := by
 intro  k
 unfold ha_.f
 repeat' first
   | (with_reducible exact aa_.mono _ _ _)
   | (with_reducible exact LeO.refl _)
   | (with_reducible exact LeO.none _)
   | (with_reducible refine LeO.ite ?_ ?_)
   | (with_reducible refine LeO.bind ?_ (fun _ => ?_))
   | exact aa_.mono _ _ _
   | exact LeO.none _
   | refine LeO.ite ?_ ?_
   | refine LeO.bind ?_ (fun _ => ?_)
set_option maxHeartbeats 8000000 in
set_option maxRecDepth 100000 in
theorem ha_.calls (k : Nat)  (r : Bool) (w : World) (h : ha_.f k  = some r) (hr_ : r = true) :
  Calls Try.prog 19 #[] w fun e w' => e = .returned (.bool r) ∧ Below w.heap.size w w' := by
 have HRT := ba_.mk hr_
 clear hr_
 have HB := ba_.mk (Below.refl w.heap.size w)
 have H : ((ge_.f (([3, 1] : List Int))).bind fun bt106 => ((je_.f bt106.1).bind fun bt110 => ((ud_.f 16 2).bind fun t115 => (if t115 = 5 then ((nc_.f 2).bind fun t116 => (if t116 = 18 then (if bt106.2 = 0 then (if (bt106.1.length : Int) = 8 then ((ee_.f bt106.1).bind fun t117 => (if t117 = true then (if bt110.2.2 = 0 then (if bt110.2.1 = 0 then ((aa_.f k bt110.1 (([3, 1] : List Int))).bind fun t121 => (some t121)) else (some false)) else (some false)) else (some false))) else (some false)) else (some false)) else (some false))) else (some false))))) = some r := h
 clear h
 obtain ⟨y103, hy103⟩ : ∃ y_ : List Int, y_ = (([3, 1] : List Int)) := ⟨_, rfl⟩
 replace H : ((ge_.f y103).bind fun bt106 => ((je_.f bt106.1).bind fun bt110 => ((ud_.f 16 2).bind fun t115 => (if t115 = 5 then ((nc_.f 2).bind fun t116 => (if t116 = 18 then (if bt106.2 = 0 then (if (bt106.1.length : Int) = 8 then ((ee_.f bt106.1).bind fun t117 => (if t117 = true then (if bt110.2.2 = 0 then (if bt110.2.1 = 0 then ((aa_.f k bt110.1 (([3, 1] : List Int))).bind fun t121 => (some t121)) else (some false)) else (some false)) else (some false))) else (some false)) else (some false)) else (some false))) else (some false))))) = some r := by first | (rw [hy103]; with_reducible exact H) | (have H2_ := (Option.bind_some _ _).symm.trans H; rw [hy103]; with_reducible exact H2_) | (have H2_ := (Option.bind_some _ _).symm.trans H; with_reducible exact H2_) | with_reducible exact H | (rw [hy103]; exact H) | exact H
 have Ny103 := ba_.mk hy103
 clear hy103
 replace H := Option.bind_eq_some_iff.mp H
 obtain ⟨⟨t106, t107⟩, A10, H⟩ := H
 replace H : ((je_.f t106).bind fun bt110 => ((ud_.f 16 2).bind fun t115 => (if t115 = 5 then ((nc_.f 2).bind fun t116 => (if t116 = 18 then (if t107 = 0 then (if (t106.length : Int) = 8 then ((ee_.f t106).bind fun t117 => (if t117 = true then (if bt110.2.2 = 0 then (if bt110.2.1 = 0 then ((aa_.f k bt110.1 (([3, 1] : List Int))).bind fun t121 => (some t121)) else (some false)) else (some false)) else (some false))) else (some false)) else (some false)) else (some false))) else (some false)))) = some r := H
 have A1 := ba_.mk A10
 clear A10
 replace H := Option.bind_eq_some_iff.mp H
 obtain ⟨⟨t110, t111, t112⟩, A20, H⟩ := H
 replace H : ((ud_.f 16 2).bind fun t115 => (if t115 = 5 then ((nc_.f 2).bind fun t116 => (if t116 = 18 then (if t107 = 0 then (if (t106.length : Int) = 8 then ((ee_.f t106).bind fun t117 => (if t117 = true then (if t112 = 0 then (if t111 = 0 then ((aa_.f k t110 (([3, 1] : List Int))).bind fun t121 => (some t121)) else (some false)) else (some false)) else (some false))) else (some false)) else (some false)) else (some false))) else (some false))) = some r := H
 have A2 := ba_.mk A20
 clear A20
 replace H := Option.bind_eq_some_iff.mp H
 obtain ⟨t115, A30, H⟩ := H
 replace H : (if t115 = 5 then ((nc_.f 2).bind fun t116 => (if t116 = 18 then (if t107 = 0 then (if (t106.length : Int) = 8 then ((ee_.f t106).bind fun t117 => (if t117 = true then (if t112 = 0 then (if t111 = 0 then ((aa_.f k t110 (([3, 1] : List Int))).bind fun t121 => (some t121)) else (some false)) else (some false)) else (some false))) else (some false)) else (some false)) else (some false))) else (some false)) = some r := H
 have A3 := ba_.mk A30
 clear A30
 by_cases c4 : t115 = 5
 ·rw [if_pos c4] at H
  have c4b0 : (t115 == 5) = true := beq_iff_eq.mpr c4
  have c4b1 : (t115 != 5) = false := bne_eq_false_iff_eq.mpr c4
  clear c4
  replace H := Option.bind_eq_some_iff.mp H
  obtain ⟨t116, A50, H⟩ := H
  replace H : (if t116 = 18 then (if t107 = 0 then (if (t106.length : Int) = 8 then ((ee_.f t106).bind fun t117 => (if t117 = true then (if t112 = 0 then (if t111 = 0 then ((aa_.f k t110 (([3, 1] : List Int))).bind fun t121 => (some t121)) else (some false)) else (some false)) else (some false))) else (some false)) else (some false)) else (some false)) = some r := H
  have A5 := ba_.mk A50
  clear A50
  by_cases c6 : t116 = 18
  ·rw [if_pos c6] at H
   have c6b0 : (t116 == 18) = true := beq_iff_eq.mpr c6
   have c6b1 : (t116 != 18) = false := bne_eq_false_iff_eq.mpr c6
   clear c6
   by_cases c7 : t107 = 0
   ·rw [if_pos c7] at H
    have c7b0 : (t107 == 0) = true := beq_iff_eq.mpr c7
    have c7b1 : (t107 != 0) = false := bne_eq_false_iff_eq.mpr c7
    clear c7
    by_cases c8 : (t106.length : Int) = 8
    ·rw [if_pos c8] at H
     have c8b0 : ((t106.length : Int) == 8) = true := beq_iff_eq.mpr c8
     try have c8b9 := eq_true (beq_iff_eq.mp c8b0)
     have c8b1 : ((t106.length : Int) != 8) = false := bne_eq_false_iff_eq.mpr c8
     clear c8
     replace H := Option.bind_eq_some_iff.mp H
     obtain ⟨t117, A90, H⟩ := H
     replace H : (if t117 = true then (if t112 = 0 then (if t111 = 0 then ((aa_.f k t110 (([3, 1] : List Int))).bind fun t121 => (some t121)) else (some false)) else (some false)) else (some false)) = some r := H
     have A9 := ba_.mk A90
     clear A90
     by_cases c10 : t117 = true
     ·subst c10
      have H1 : (if t112 = 0 then (if t111 = 0 then ((aa_.f k t110 (([3, 1] : List Int))).bind fun t121 => (some t121)) else (some false)) else (some false)) = some r := by rw [if_pos rfl] at H; exact H
      clear H
      have H := H1
      clear H1
      by_cases c11 : t112 = 0
      ·rw [if_pos c11] at H
       have c11b0 : (t112 == 0) = true := beq_iff_eq.mpr c11
       have c11b1 : (t112 != 0) = false := bne_eq_false_iff_eq.mpr c11
       clear c11
       by_cases c12 : t111 = 0
       ·rw [if_pos c12] at H
        have c12b0 : (t111 == 0) = true := beq_iff_eq.mpr c12
        have c12b1 : (t111 != 0) = false := bne_eq_false_iff_eq.mpr c12
        clear c12
        obtain ⟨y118, hy118⟩ : ∃ y_ : List Int, y_ = (([3, 1] : List Int)) := ⟨_, rfl⟩
        replace H : ((aa_.f k t110 y118).bind fun t121 => (some t121)) = some r := by first | (rw [hy118]; with_reducible exact H) | (have H2_ := (Option.bind_some _ _).symm.trans H; rw [hy118]; with_reducible exact H2_) | (have H2_ := (Option.bind_some _ _).symm.trans H; with_reducible exact H2_) | with_reducible exact H | (rw [hy118]; exact H) | exact H
        have Ny118 := ba_.mk hy118
        clear hy118
        replace H := Option.bind_eq_some_iff.mp H
        obtain ⟨t121, A130, H⟩ := H
        replace H : (some t121) = some r := H
        have A13 := ba_.mk A130
        clear A130
        obtain rfl := Option.some.inj H
        go_enter Try.func19, Try.ntmps19
        go_wp2_with (first | ((with_reducible refine yd_ (N := 7) rfl ?_); (try (refine ce_ (by rfl) ?_; dsimp only)); refine Kd.ri_ (Kd.int .i64) _ 3 ?hg (N := 7) ?hd (xs := ([3, 1] : List Int)) (inner := [.int .i64 3, .int .i64 1]) (ok := fun _ => True) (okp := fun _ => True) ?hr ?hp (fun _ hk => hk) trivial (Below.refl _ _) (Nat.le_refl _) (by simp) ?_; (case hd => rfl); (case hg => rfl); (case hr => first | (go_simp; done) | (go_simp; rfl)); (case hp => exact (Reps.one (show Kd.M (Kd.int .i64) _ _ _ 3 [.int .i64 3] from rfl) (Reps.one (show Kd.M (Kd.int .i64) _ _ _ 1 [.int .i64 1] from rfl) (Reps.none _ _)))); intro v104 w14 ho15 hb hg_ hnew_; clear hg_ hnew_; (first | rw [← Ny103.out] at ho15 | (simp only [Int.reduceToNat] at ho15; rw [← Ny103.out] at ho15)); have n0_ := ba_.mk (Kd.wc_ ho15 (eb_ (by repeat (first | (with_reducible first | exact HB.out | apply fa_ | apply ca_ | apply ga_) | exact HB.out)))); have n1_ := ba_.mk (gb_ (by repeat (first | (with_reducible first | exact HB.out | apply fa_ | apply ca_ | apply ga_) | exact HB.out)) hb); clear HB; have HO105 := n0_; have HB := n1_; clear n0_ n1_; clear hb ho15; obtain ⟨Ao16, co16, eo16⟩ := Kd.fc_ HO105.out; subst eo16) | ((with_reducible refine ua_ (f := 27) rfl ?_); refine hc_ (some 8) rfl rfl Try.func27 (by kernel_rfl) rfl #[.slice Ao16 y103.length co16] rfl (by (try simp only [List.map_toArray, List.map_cons, List.map_nil]); first | done | rfl | (simp only [List.length_drop, List.length_take]; rfl)) ?_; (with_reducible refine (ge_.calls _ _ y103 t106 t107 _ ?side1 ?side2 A1.out).mono ?_); (case side1 => repeat (first | exact (Kd.ta_ HO105.out).2.2 | (with_reducible refine Kd.yb_ ?_ _) | (with_reducible refine Kd.zb_ ?_ _) | (with_reducible refine Kd.jc_ ?_))); (case side2 => exact (Kd.ta_ HO105.out).2.1); rintro e w17 ⟨v108, rfl, ho0, hb⟩; refine ⟨_, rfl, ?_⟩; have n0_ := ba_.mk (Kd.wb_ (by (with_reducible repeat (first | apply Kd.la_ | apply Kd.ka_ | apply Kd.ma_)); exact HO105.out) (Kd.rc_ ho0) hb); have n1_ := ba_.mk (Kd.wc_ (Kd.qc_ ho0 (Kd.R_lt (by (with_reducible repeat (first | apply Kd.la_ | apply Kd.ka_ | apply Kd.ma_)); exact HO105.out))) (eb_ (by repeat (first | (with_reducible first | exact HB.out | apply fa_ | apply ca_ | apply ga_) | exact HB.out)))); have n2_ := ba_.mk (gb_ (by repeat (first | (with_reducible first | exact HB.out | apply fa_ | apply ca_ | apply ga_) | exact HB.out)) hb); clear HO105; clear HB; have HO105 := n0_; have HO109 := n1_; have HB := n2_; clear n0_ n1_ n2_; (try clear hb); (try clear hb2); (try clear hk); (try clear hi); (try clear ho0); obtain ⟨Ao18, co18, eo18⟩ := Kd.fc_ HO109.out; subst eo18) | ((with_reducible refine ua_ (f := 34) rfl ?_); refine hc_ (some 13) rfl rfl Try.func34 (by kernel_rfl) rfl #[.slice Ao18 t106.length co18] rfl (by (try simp only [List.map_toArray, List.map_cons, List.map_nil]); first | done | rfl | (simp only [List.length_drop, List.length_take]; rfl)) ?_; (with_reducible refine (je_.calls _ _ t106 t110 t111 t112 _ ?side1 ?side2 A2.out).mono ?_); (case side1 => repeat (first | exact (Kd.ta_ HO109.out).2.2 | (with_reducible refine Kd.yb_ ?_ _) | (with_reducible refine Kd.zb_ ?_ _) | (with_reducible refine Kd.jc_ ?_))); (case side2 => exact (Kd.ta_ HO109.out).2.1); rintro e w19 ⟨v113, rfl, ho0, hb⟩; refine ⟨_, rfl, ?_⟩; have n0_ := ba_.mk (Kd.wb_ (by (with_reducible repeat (first | apply Kd.la_ | apply Kd.ka_ | apply Kd.ma_)); exact HO105.out) (Kd.rc_ ho0) hb); have n1_ := ba_.mk (Kd.wb_ (by (with_reducible repeat (first | apply Kd.la_ | apply Kd.ka_ | apply Kd.ma_)); exact HO109.out) (Kd.rc_ ho0) hb); have n2_ := ba_.mk (Kd.wc_ (Kd.qc_ (Kd.qc_ ho0 (Kd.R_lt (by (with_reducible repeat (first | apply Kd.la_ | apply Kd.ka_ | apply Kd.ma_)); exact HO105.out))) (Kd.R_lt (by (with_reducible repeat (first | apply Kd.la_ | apply Kd.ka_ | apply Kd.ma_)); exact HO109.out))) (eb_ (by repeat (first | (with_reducible first | exact HB.out | apply fa_ | apply ca_ | apply ga_) | exact HB.out)))); have n3_ := ba_.mk (gb_ (by repeat (first | (with_reducible first | exact HB.out | apply fa_ | apply ca_ | apply ga_) | exact HB.out)) hb); clear HO105; clear HO109; clear HB; have HO105 := n0_; have HO109 := n1_; have HO114 := n2_; have HB := n3_; clear n0_ n1_ n2_ n3_; (try clear hb); (try clear hb2); (try clear hk); (try clear hi); (try clear ho0)) | ((with_reducible refine ua_ (f := 15) rfl ?_); refine hc_ (some 17) rfl rfl Try.func15 (by kernel_rfl) rfl #[.int .i64 16, .int .i64 2] rfl (by (try simp only [List.map_toArray, List.map_cons, List.map_nil]); first | done | rfl | (simp only [List.length_drop, List.length_take]; rfl)) ?_; (with_reducible refine (ud_.calls 16 2 t115 _ A3.out).mono ?_); rintro e w' ⟨rfl, ⟨nd, rfl⟩⟩; refine ⟨_, rfl, ?_⟩) | (go_at_call 17; (with_reducible refine (nc_.calls 2 t116 _ A5.out).mono ?_); rintro e w' ⟨rfl, ⟨nd, rfl⟩⟩) | (go_at_call 32; (with_reducible refine (ee_.calls _ _ t106 true _ ?side1 ?side2 A9.out).mono ?_); (case side1 => repeat (first | exact (Kd.ta_ HO109.out).2.2 | (with_reducible refine Kd.yb_ ?_ _) | (with_reducible refine Kd.zb_ ?_ _) | (with_reducible refine Kd.jc_ ?_))); (case side2 => exact (Kd.ta_ HO109.out).2.1); rintro e w20 ⟨rfl, hb⟩; have n0_ := ba_.mk (Kd.cd_ (by (with_reducible repeat (first | apply Kd.la_ | apply Kd.ka_ | apply Kd.ma_)); exact HO105.out) hb); have n1_ := ba_.mk (Kd.cd_ (by (with_reducible repeat (first | apply Kd.la_ | apply Kd.ka_ | apply Kd.ma_)); exact HO109.out) hb); have n2_ := ba_.mk (Kd.cd_ (by (with_reducible repeat (first | apply Kd.la_ | apply Kd.ka_ | apply Kd.ma_)); exact HO114.out) hb); have n3_ := ba_.mk (gb_ (by repeat (first | (with_reducible first | exact HB.out | apply fa_ | apply ca_ | apply ga_) | exact HB.out)) hb); clear HO105; clear HO109; clear HO114; clear HB; have HO105 := n0_; have HO109 := n1_; have HO114 := n2_; have HB := n3_; clear n0_ n1_ n2_ n3_; (try clear hb); (try clear hb2); (try clear hk); (try clear hi)) | ((with_reducible refine yd_ (N := 46) rfl ?_); (try (refine ce_ (by rfl) ?_; dsimp only)); refine Kd.ri_ (Kd.int .i64) _ 3 ?hg (N := 46) ?hd (xs := ([3, 1] : List Int)) (inner := [.int .i64 3, .int .i64 1]) (ok := fun _ => True) (okp := fun _ => True) ?hr ?hp (fun _ hk => hk) trivial (Below.refl _ _) (Nat.le_refl _) (by simp) ?_; (case hd => rfl); (case hg => rfl); (case hr => first | (go_simp; done) | (go_simp; rfl)); (case hp => exact (Reps.one (show Kd.M (Kd.int .i64) _ _ _ 3 [.int .i64 3] from rfl) (Reps.one (show Kd.M (Kd.int .i64) _ _ _ 1 [.int .i64 1] from rfl) (Reps.none _ _)))); intro v119 w21 ho22 hb hg_ hnew_; clear hg_ hnew_; (first | rw [← Ny118.out] at ho22 | (simp only [Int.reduceToNat] at ho22; rw [← Ny118.out] at ho22)); have n0_ := ba_.mk (Kd.wb_ (by (with_reducible repeat (first | apply Kd.la_ | apply Kd.ka_ | apply Kd.ma_)); exact HO105.out) (Kd.rc_ ho22) hb); have n1_ := ba_.mk (Kd.wb_ (by (with_reducible repeat (first | apply Kd.la_ | apply Kd.ka_ | apply Kd.ma_)); exact HO109.out) (Kd.rc_ ho22) hb); have n2_ := ba_.mk (Kd.wb_ (by (with_reducible repeat (first | apply Kd.la_ | apply Kd.ka_ | apply Kd.ma_)); exact HO114.out) (Kd.rc_ ho22) hb); have n3_ := ba_.mk (Kd.wc_ (Kd.qc_ (Kd.qc_ (Kd.qc_ ho22 (Kd.R_lt (by (with_reducible repeat (first | apply Kd.la_ | apply Kd.ka_ | apply Kd.ma_)); exact HO105.out))) (Kd.R_lt (by (with_reducible repeat (first | apply Kd.la_ | apply Kd.ka_ | apply Kd.ma_)); exact HO109.out))) (Kd.R_lt (by (with_reducible repeat (first | apply Kd.la_ | apply Kd.ka_ | apply Kd.ma_)); exact HO114.out))) (eb_ (by repeat (first | (with_reducible first | exact HB.out | apply fa_ | apply ca_ | apply ga_) | exact HB.out)))); have n4_ := ba_.mk (gb_ (by repeat (first | (with_reducible first | exact HB.out | apply fa_ | apply ca_ | apply ga_) | exact HB.out)) hb); clear HO105; clear HO109; clear HO114; clear HB; have HO105 := n0_; have HO109 := n1_; have HO114 := n2_; have HO120 := n3_; have HB := n4_; clear n0_ n1_ n2_ n3_ n4_; clear hb ho22; obtain ⟨Ao23, co23, eo23⟩ := Kd.fc_ HO114.out; subst eo23; obtain ⟨Ao24, co24, eo24⟩ := Kd.fc_ HO120.out; subst eo24) | (go_at_call 29; (with_reducible refine (aa_.calls k _ _ t110 _ _ y118 t121 _ ?side1 ?side2 ?side3 ?side4 A13.out).mono ?_); (case side1 => repeat (first | exact (Kd.ta_ HO114.out).2.2 | (with_reducible refine Kd.yb_ ?_ _) | (with_reducible refine Kd.zb_ ?_ _) | (with_reducible refine Kd.jc_ ?_))); (case side2 => exact (Kd.ta_ HO114.out).2.1); (case side3 => repeat (first | exact (Kd.ta_ HO120.out).2.2 | (with_reducible refine Kd.yb_ ?_ _) | (with_reducible refine Kd.zb_ ?_ _) | (with_reducible refine Kd.jc_ ?_))); (case side4 => exact (Kd.ta_ HO120.out).2.1); rintro e w' ⟨rfl, ⟨nd, rfl⟩⟩))
        go_ret
        exact ⟨by first | rfl | (simp [bb_, cb_] <;> rfl) | (simp [*, bb_, cb_] <;> rfl), by repeat (first | (with_reducible first | exact HB.out | apply fa_ | apply ca_ | apply ga_) | exact HB.out)⟩
       ·rw [if_neg c12] at H
        have c12b0 : (t111 == 0) = false := beq_eq_false_iff_ne.mpr c12
        have c12b1 : (t111 != 0) = true := bne_iff_ne.mpr c12
        exact absurd ((Option.some.inj H).trans HRT.out) (by decide)
      ·rw [if_neg c11] at H
       have c11b0 : (t112 == 0) = false := beq_eq_false_iff_ne.mpr c11
       have c11b1 : (t112 != 0) = true := bne_iff_ne.mpr c11
       exact absurd ((Option.some.inj H).trans HRT.out) (by decide)
     ·replace c10 := Bool.eq_false_iff.mpr c10
      subst c10
      have H1 : (some false) = some r := by rw [if_neg (show ¬ (false = true) by decide)] at H; exact H
      clear H
      have H := H1
      clear H1
      exact absurd ((Option.some.inj H).trans HRT.out) (by decide)
    ·rw [if_neg c8] at H
     have c8b0 : ((t106.length : Int) == 8) = false := beq_eq_false_iff_ne.mpr c8
     try have c8b9 := eq_false (beq_eq_false_iff_ne.mp c8b0)
     have c8b1 : ((t106.length : Int) != 8) = true := bne_iff_ne.mpr c8
     exact absurd ((Option.some.inj H).trans HRT.out) (by decide)
   ·rw [if_neg c7] at H
    have c7b0 : (t107 == 0) = false := beq_eq_false_iff_ne.mpr c7
    have c7b1 : (t107 != 0) = true := bne_iff_ne.mpr c7
    exact absurd ((Option.some.inj H).trans HRT.out) (by decide)
  ·rw [if_neg c6] at H
   have c6b0 : (t116 == 18) = false := beq_eq_false_iff_ne.mpr c6
   have c6b1 : (t116 != 18) = true := bne_iff_ne.mpr c6
   exact absurd ((Option.some.inj H).trans HRT.out) (by decide)
 ·rw [if_neg c4] at H
  have c4b0 : (t115 == 5) = false := beq_eq_false_iff_ne.mpr c4
  have c4b1 : (t115 != 5) = true := bne_iff_ne.mpr c4
  exact absurd ((Option.some.inj H).trans HRT.out) (by decide)
end Go.Proofs.Ytpkhgapifnjbeaa.Y
end
section
namespace Go.Proofs.Ytpkhgapifnjbeaa.Y
open Go.RowKit Go.Proofs.Ytpkhgapifnjbeaa.G Go.Proofs.Ytpkhgapifnjbeaa.Rs Go.Proofs.YtpkhgapifnjbeaaW.PrintWords Go.Proofs.YtpkhgapifnjbeaaW.PrintLast Go.Proofs.YtpkhgapifnjbeaaW.PrintMore
attribute [local go_sem] dd_ fd_ rd_ sd_ uc_ vc_ ed_ gd_
set_option linter.unusedVariables false
set_option linter.unusedSimpArgs false
def ia_ (w0 W : World) (g : Nat) (f0 : List Int) (f1 : Int) : Prop := ∃ A0 c0, W.heap[g]? = some (.cells #[.slice A0 f0.length c0, .int .i64 f1] 48 (0, 0)) ∧ w0.heap.size ≤ g ∧ Kd.C (Kd.int .i64) w0 A0 f0.length f0
theorem ia_.grown {w0 W : World} {g : Nat} {f0 : List Int} {f1 : Int} {W1 : World} {row : Option Nat} (h : ia_ w0 W g f0 f1) (hw : W.grownBy W1 row) (hne : some g ≠ row) : ia_ w0 W1 g f0 f1 := by
 obtain ⟨A0, c0, hb, hg, hr0⟩ := h
 exact ⟨A0, c0, bi_ hb hw hne, hg, hr0⟩
theorem ia_.kept {w0 W : World} {g : Nat} {f0 : List Int} {f1 : Int} {W1 : World} {S : Nat → Prop} (h : ia_ w0 W g f0 f1) (hk : Kept W W1 S) (hne : ¬ S g) : ia_ w0 W1 g f0 f1 := by
 obtain ⟨A0, c0, hb, hg, hr0⟩ := h
 exact ⟨A0, c0, zi_ hb hk hne, hg, hr0⟩
theorem ia_.below {w0 W : World} {g : Nat} {f0 : List Int} {f1 : Int} {W1 : World} (h : ia_ w0 W g f0 f1) (hw : Below W.heap.size W W1) : ia_ w0 W1 g f0 f1 := h.grown (ef_ hw none) (by simp)
theorem ia_.alloc {w0 W : World} {g : Nat} {f0 : List Int} {f1 : Int} (h : ia_ w0 W g f0 f1) (o : Obj) : ia_ w0 (W.alloc o) g f0 f1 := h.below (fa_ (Below.refl _ _) o)
theorem ia_.drewN {w0 W : World} {g : Nat} {f0 : List Int} {f1 : Int} (h : ia_ w0 W g f0 f1) (m : Nat) : ia_ w0 (W.drewN m) g f0 f1 := h
theorem ia_.drew {w0 W : World} {g : Nat} {f0 : List Int} {f1 : Int} (h : ia_ w0 W g f0 f1) : ia_ w0 W.drew g f0 f1 := h
theorem ia_.at_ {w0 W : World} {g : Nat} {f0 : List Int} {f1 : Int} {w' : World} {m : Nat} (hq : W.drewN m = w') (h : ia_ w0 W g f0 f1) : ia_ w0 w' g f0 f1 := by subst hq; exact ia_.drewN h m
theorem ia_.apart {w0 W : World} {g : Nat} {f0 : List Int} {f1 : Int} {α : Type} {d : Kd α} {e : Nat} {base : Nat} {ok : Nat → Prop} {v : Value} {xs : List α} (h : ia_ w0 W g f0 f1) (ho : d.R e W base ok v xs) (ht : ∀ q, q ∈ e :: d.E → q ≠ 48) : d.R e W base (fun k => ok k ∧ k ≠ g) v xs := by
 obtain ⟨A0, c0, hb, hg, hr0⟩ := h
 exact Kd.gj_ ho hb ht
theorem ia_.fe_ {w0 W : World} {g : Nat} {f0 : List Int} {f1 : Int} {α : Type} {d : Kd α} {e : Nat} {base : Nat} {ok : Nat → Prop} {v : Value} {xs : List α} (h : ia_ w0 W g f0 f1) (ho : d.R e W base ok v xs) (ht : e ≠ 48) : some g ≠ v.ownBlock := by
 obtain ⟨A0, c0, hb, hg, hr0⟩ := h
 exact Kd.R_ne ho hb ht
theorem ia_.lt {w0 W : World} {g : Nat} {f0 : List Int} {f1 : Int} (h : ia_ w0 W g f0 f1) : g < W.heap.size := by
 obtain ⟨A0, c0, hb, hg, hr0⟩ := h
 exact qj_ hb
theorem ia_.ge {w0 W : World} {g : Nat} {f0 : List Int} {f1 : Int} (h : ia_ w0 W g f0 f1) : w0.heap.size ≤ g := by
 obtain ⟨A0, c0, hb, hg, hr0⟩ := h
 exact hg
theorem jf_ {W : World} {g : Nat} {A0 : Option Addr} {c0 : Nat} {f0 : List Int} {f1 : Int} (h : W.heap[g]? = some (.cells #[.slice A0 f0.length c0, .int .i64 f1] 48 (0, 0))) : W.cell? ⟨g, 0, none⟩ = some (.slice A0 f0.length c0) := (jh_ h 0).trans rfl
theorem kf_ {W : World} {g : Nat} {A0 : Option Addr} {c0 : Nat} {f0 : List Int} {f1 : Int} (h : W.heap[g]? = some (.cells #[.slice A0 f0.length c0, .int .i64 f1] 48 (0, 0))) : W.cell? ⟨g, 1, none⟩ = some (.int .i64 f1) := (jh_ h 1).trans rfl
theorem ia_.ic_ {w0 W : World} {g : Nat} {f0 : List Int} {f1 : Int} (h : ia_ w0 W g f0 f1) (x : Int) : ia_ w0 (W.setCell ⟨g, 1, none⟩ (.int .i64 x)) g f0 x := by
 obtain ⟨A0, c0, hb, hg, hr0⟩ := h
 exact ⟨A0, c0, by simpa using zk_ hb 1 (.int .i64 x), hg, hr0⟩
def sb_.f (l0 : List Int) : Option (List Int × Int) := if (l0.length : Int) > 600 then (if 600 ≤ (l0.length : Int) then (some (l0.take 600, 0)) else (none)) else (some (l0, 0))
set_option maxHeartbeats 8000000 in
set_option maxRecDepth 100000 in
theorem sb_.calls (A0 : Option Addr) (c0 : Nat) (l0 : List Int) (r1 : List Int) (r2 : Int) (w0 w : World) (hB : Below w0.heap.size w0 w) (hr0 : Kd.C (Kd.int .i64) w0 A0 l0.length l0) (hc0 : l0.length ≤ c0) (h : sb_.f l0 = some (r1, r2)) :
  Calls Try.prog 22 #[.slice A0 l0.length c0] w fun e w' => ∃ g_ : Nat, e = .returned (.pointer (some ⟨g_, 0, none⟩)) ∧ ia_ w0 w' g_ r1 r2 ∧ Below w0.heap.size w0 w' ∧ Below w.heap.size w w' := by
 have hu48 := Try.underlying48
 have HR0 := ba_.mk hr0
 have HC0 := ba_.mk hc0
 clear hr0 hc0
 have HBW := ba_.mk (Below.refl w.heap.size w)
 have HW0 := ba_.mk hB.size
 have HB := ba_.mk hB
 clear hB
 have H : (if (l0.length : Int) > 600 then (if 600 ≤ (l0.length : Int) then (some (l0.take 600, 0)) else (none)) else (some (l0, 0))) = some (r1, r2) := h
 clear h
 by_cases c2 : (l0.length : Int) > 600
 ·rw [if_pos c2] at H
  have c2b0 : decide (600 < (l0.length : Int)) = true := decide_eq_true c2
  have c2b1 : decide (600 < l0.length) = true := decide_eq_true (by omega)
  clear c2
  by_cases c3 : 600 ≤ (l0.length : Int)
  ·rw [if_pos c3] at H
   have c3b0 := eq_true c3
   have c3b1 : decide (600 ≤ (l0.length : Int)) = true := decide_eq_true c3
   clear c3
   simp only [Option.some.injEq, Prod.mk.injEq] at H
   obtain ⟨rfl, rfl⟩ := H
   obtain ⟨i04, hi04, _, hsz4, _⟩ := info_parts te_
   obtain ⟨hcut4, hA4, hC4⟩ := hf_ (P := Try.prog) (Value.int .i64) 0 27 3 .i64 Try.underlying27 hi04 hsz4 A0 c0 l0 600 (by omega) (of_decide_eq_true (by first | (with_reducible assumption) | assumption)) HC0.out
   have HR157 := ba_.mk (Kd.ue_ (h1 := fun _ => rfl) (hA4 _ (Kd.xf_ HR0.out)))
   have HC157 := ba_.mk hC4
   clear hA4 hC4 hi04 hsz4
   go_enter Try.func22, Try.ntmps22
   go_wp2_with (first | ((with_reducible refine yd_ (N := 10) rfl ?_); refine gg_ ?hg (N := 10) ?hd (cs := #[.slice A0 (l0.take 600).length c0, .int .i64 0]) (t := 48) ?hr ?_; (case hd => rfl); (case hg => rfl); (case hr => first | (go_simp; done) | (go_simp; rfl)); intro gb158 hg w5 hbox hb; have n0_ := ba_.mk (gb_ HBW.out hb); have n1_ := ba_.mk (gb_ (by repeat (first | (with_reducible first | exact HB.out | apply fa_ | apply ca_ | apply ga_) | exact HB.out)) hb); have n2_ := ba_.mk (hbox); have n3_ := ba_.mk ((by rw [hg]; exact (eb_ (by repeat (first | (with_reducible first | exact HBW.out | apply fa_ | apply ca_ | apply ga_) | exact HBW.out))) : w.heap.size ≤ gb158)); have n4_ := ba_.mk ((Nat.le_trans HW0.out (by rw [hg]; exact (eb_ (by repeat (first | (with_reducible first | exact HBW.out | apply fa_ | apply ca_ | apply ga_) | exact HBW.out))) : w.heap.size ≤ gb158) : w0.heap.size ≤ gb158)); clear HBW; clear HB; have HBW := n0_; have HB := n1_; have BK158 := n2_; have GW158 := n3_; have GE158 := n4_; clear n0_ n1_ n2_ n3_ n4_; clear hb hbox hg))
   go_ret
   exact ⟨_, rfl, (show ia_ w0 _ gb158 (l0.take 600) 0 from ⟨_, _, by (with_reducible repeat (first | refine fg_ ?_ _ | refine kh_ ?_ | refine eg_ ?_ _)); exact BK158.out, GE158.out, HR157.out⟩), by repeat (first | (with_reducible first | exact HB.out | apply fa_ | apply ca_ | apply ga_ | refine qa_ ?_ GE158.out) | exact HB.out), by repeat (first | (with_reducible first | exact HBW.out | apply fa_ | apply ca_ | apply ga_ | refine qa_ ?_ GW158.out) | exact HBW.out)⟩
  ·rw [if_neg c3] at H
   exact absurd H (by simp)
 ·rw [if_neg c2] at H
  have c2b0 : decide (600 < (l0.length : Int)) = false := decide_eq_false c2
  have c2b1 : decide (600 < l0.length) = false := decide_eq_false (by omega)
  clear c2
  simp only [Option.some.injEq, Prod.mk.injEq] at H
  obtain ⟨rfl, rfl⟩ := H
  go_enter Try.func22, Try.ntmps22
  go_wp2_with (first | ((with_reducible refine yd_ (N := 10) rfl ?_); refine gg_ ?hg (N := 10) ?hd (cs := #[.slice A0 l0.length c0, .int .i64 0]) (t := 48) ?hr ?_; (case hd => rfl); (case hg => rfl); (case hr => first | (go_simp; done) | (go_simp; rfl)); intro gb159 hg w6 hbox hb; have n0_ := ba_.mk (gb_ HBW.out hb); have n1_ := ba_.mk (gb_ (by repeat (first | (with_reducible first | exact HB.out | apply fa_ | apply ca_ | apply ga_) | exact HB.out)) hb); have n2_ := ba_.mk (hbox); have n3_ := ba_.mk ((by rw [hg]; exact (eb_ (by repeat (first | (with_reducible first | exact HBW.out | apply fa_ | apply ca_ | apply ga_) | exact HBW.out))) : w.heap.size ≤ gb159)); have n4_ := ba_.mk ((Nat.le_trans HW0.out (by rw [hg]; exact (eb_ (by repeat (first | (with_reducible first | exact HBW.out | apply fa_ | apply ca_ | apply ga_) | exact HBW.out))) : w.heap.size ≤ gb159) : w0.heap.size ≤ gb159)); clear HBW; clear HB; have HBW := n0_; have HB := n1_; have BK159 := n2_; have GW159 := n3_; have GE159 := n4_; clear n0_ n1_ n2_ n3_ n4_; clear hb hbox hg))
  go_ret
  exact ⟨_, rfl, (show ia_ w0 _ gb159 l0 0 from ⟨_, _, by (with_reducible repeat (first | refine fg_ ?_ _ | refine kh_ ?_ | refine eg_ ?_ _)); exact BK159.out, GE159.out, HR0.out⟩), by repeat (first | (with_reducible first | exact HB.out | apply fa_ | apply ca_ | apply ga_ | refine qa_ ?_ GE159.out) | exact HB.out), by repeat (first | (with_reducible first | exact HBW.out | apply fa_ | apply ca_ | apply ga_ | refine qa_ ?_ GW159.out) | exact HBW.out)⟩
def lb_.f (s0_0 : List Int) (s0_1 : Int) : Option (Int × Int) := if s0_1 ≥ (s0_0.length : Int) then (some (0, s0_1)) else (if 0 ≤ (wrap64 ((wrap64 (s0_1 + 1)) - 1)) then (if (wrap64 ((wrap64 (s0_1 + 1)) - 1)) < (s0_0.length : Int) then (some (rd s0_0 (wrap64 ((wrap64 (s0_1 + 1)) - 1)), wrap64 (s0_1 + 1))) else (none)) else (none))
set_option maxHeartbeats 8000000 in
set_option maxRecDepth 100000 in
theorem lb_.calls (g : Nat) (s0_0 : List Int) (s0_1 : Int) (r1 : Int) (r2 : Int) (w0 w : World) (hI : ia_ w0 w g s0_0 s0_1) (hB : Below w0.heap.size w0 w) (h : lb_.f s0_0 s0_1 = some (r1, r2)) :
  Calls Try.prog 42 #[.pointer (some ⟨g, 0, none⟩)] w fun e w' => e = .returned (.int .i64 r1) ∧ ia_ w0 w' g s0_0 r2 ∧ Below w0.heap.size w0 w' ∧ xa_ w w' g none := by
 have HI0 := ba_.mk hI
 have HK := ba_.mk (xa_.refl w g none)
 have HL := ba_.mk hB.size
 clear hI
 have HW0 := ba_.mk hB.size
 have HB := ba_.mk hB
 clear hB
 have H : (if s0_1 ≥ (s0_0.length : Int) then (some (0, s0_1)) else (if 0 ≤ (wrap64 ((wrap64 (s0_1 + 1)) - 1)) then (if (wrap64 ((wrap64 (s0_1 + 1)) - 1)) < (s0_0.length : Int) then (some (rd s0_0 (wrap64 ((wrap64 (s0_1 + 1)) - 1)), wrap64 (s0_1 + 1))) else (none)) else (none))) = some (r1, r2) := h
 clear h
 by_cases c2 : s0_1 ≥ (s0_0.length : Int)
 ·rw [if_pos c2] at H
  have c2b0 : decide ((s0_0.length : Int) ≤ s0_1) = true := decide_eq_true c2
  clear c2
  simp only [Option.some.injEq, Prod.mk.injEq] at H
  obtain ⟨rfl, rfl⟩ := H
  obtain ⟨ASz3_0, cSz3_0, HGz3, hgz3, HSz3_0⟩ := HI0.out
  have hcz3_0 := jf_ HGz3
  have hcz3_1 := kf_ HGz3
  have hfz3_1 := nf_ HGz3 1
  clear HGz3 hgz3
  go_enter Try.func42, Try.ntmps42
  go_wp2
  repeat (go_quiet (fail); try go_wp2)
  go_ret
  exact ⟨by first | rfl | (simp [bb_, cb_] <;> rfl) | (simp [*, bb_, cb_] <;> rfl), by repeat (first | (with_reducible first | exact HI0.out | apply ia_.alloc | apply ia_.drewN | apply ia_.drew | apply ia_.ic_) | exact HI0.out), by repeat (first | (with_reducible first | exact HB.out | apply fa_ | apply ca_ | apply ga_ | refine qa_ ?_ (ia_.ge HI0.out)) | exact HB.out), by repeat (first | (with_reducible first | exact HK.out | apply xa_.set_ | apply kb_ | apply rb_ | apply jb_) | exact HK.out)⟩
 ·rw [if_neg c2] at H
  have c2b0 : decide ((s0_0.length : Int) ≤ s0_1) = false := decide_eq_false c2
  clear c2
  obtain ⟨ji4, hji4⟩ : ∃ j_ : Int, (wrap64 ((wrap64 (s0_1 + 1)) - 1)) = j_ := ⟨_, rfl⟩
  replace H : (if 0 ≤ (ji4) then (if (ji4) < (s0_0.length : Int) then (some (rd s0_0 (ji4), wrap64 (s0_1 + 1))) else (none)) else (none)) = some (r1, r2) := by first | (rw [hji4] at H; exact H) | (simp only [hji4] at H ⊢; exact H)
  have hji4w : (IntKind.i64.wrap ((wrap64 (s0_1 + 1)) - 1)) = ji4 := (gc_ _).trans hji4
  by_cases c5 : 0 ≤ (ji4)
  ·rw [if_pos c5] at H
   have c5b0 : decide (0 ≤ (ji4)) = true := decide_eq_true c5
   clear c5
   by_cases c6 : (ji4) < (s0_0.length : Int)
   ·rw [if_pos c6] at H
    have c6b0 : decide ((ji4) < (s0_0.length : Int)) = true := decide_eq_true c6
    clear c6
    simp only [Option.some.injEq, Prod.mk.injEq] at H
    obtain ⟨rfl, rfl⟩ := H
    obtain ⟨ASz7_0, cSz7_0, HGz7, hgz7, HSz7_0⟩ := HI0.out
    have hcz7_0 := jf_ HGz7
    have hcz7_1 := kf_ HGz7
    have hfz7_1 := nf_ HGz7 1
    clear HGz7 hgz7
    have p160 : 0 ≤ ((ji4) : Int) := of_decide_eq_true (by first | (with_reducible assumption) | assumption)
    have q160 : (ji4) < (s0_0.length : Int) := of_decide_eq_true (by first | (with_reducible assumption) | assumption)
    obtain ⟨ad160, e160, hx160_0⟩ := Kd.nd_ HSz7_0 (ji4) p160 q160
    cases e160
    have hn160_0 : ad160.block ≠ g := Nat.ne_of_lt (Nat.lt_of_lt_of_le (by have := World.block_lt_of_cell? _ _ hx160_0; first | rwa [ae_] at this | exact this) (ia_.ge HI0.out))
    replace hx160_0 := rf_ HB.out hx160_0
    replace hx160_0 := (cell_far (p := ⟨g, 1, none⟩) (by first | (rw [ae_]; exact hn160_0) | (show (Addr.add _ _).block ≠ _; rw [ae_]; exact hn160_0) | exact hn160_0) (.int .i64 (wrap64 (s0_1 + 1)))).trans hx160_0
    (try have hy160_0 := fun (n_ : Nat) => (show (((w.drewN n_).setCell ⟨g, 1, none⟩ (.int .i64 (wrap64 (s0_1 + 1))))).cell? _ = some _ from hx160_0))
    clear hn160_0
    replace p160 := eq_true p160
    replace q160 := eq_true q160
    go_enter Try.func42, Try.ntmps42
    go_wp2
    repeat (go_quiet (fail); try go_wp2)
    go_ret
    exact ⟨by first | rfl | (simp [bb_, cb_] <;> rfl) | (simp only [← hji4]; first | rfl | (simp [bb_, cb_] <;> rfl)) | (simp [*, bb_, cb_] <;> rfl), by repeat (first | (with_reducible first | exact HI0.out | apply ia_.alloc | apply ia_.drewN | apply ia_.drew | apply ia_.ic_) | exact HI0.out), by repeat (first | (with_reducible first | exact HB.out | apply fa_ | apply ca_ | apply ga_ | refine qa_ ?_ (ia_.ge HI0.out)) | exact HB.out), by repeat (first | (with_reducible first | exact HK.out | apply xa_.set_ | apply kb_ | apply rb_ | apply jb_) | exact HK.out)⟩
   ·rw [if_neg c6] at H
    exact absurd H (by simp)
  ·rw [if_neg c5] at H
   exact absurd H (by simp)
def na_.f (s0_0 : List Int) (s0_1 : Int) (a1 : Int) : Option (Int × Int) := (lb_.f s0_0 s0_1).bind fun bt161 => ((ab_.f bt161.1 a1).bind fun t163 => (some (t163, bt161.2)))
set_option maxHeartbeats 8000000 in
set_option maxRecDepth 100000 in
theorem na_.calls (g : Nat) (s0_0 : List Int) (s0_1 : Int) (a1 : Int) (r1 : Int) (r2 : Int) (w0 w : World) (hI : ia_ w0 w g s0_0 s0_1) (hB : Below w0.heap.size w0 w) (h : na_.f s0_0 s0_1 a1 = some (r1, r2)) :
  Calls Try.prog 26 #[.pointer (some ⟨g, 0, none⟩), .int .i64 a1] w fun e w' => e = .returned (.int .i64 r1) ∧ ia_ w0 w' g s0_0 r2 ∧ Below w0.heap.size w0 w' ∧ xa_ w w' g none := by
 have HI0 := ba_.mk hI
 have HK := ba_.mk (xa_.refl w g none)
 have HL := ba_.mk hB.size
 clear hI
 have HW0 := ba_.mk hB.size
 have HB := ba_.mk hB
 clear hB
 have H : ((lb_.f s0_0 s0_1).bind fun bt161 => ((ab_.f bt161.1 a1).bind fun t163 => (some (t163, bt161.2)))) = some (r1, r2) := h
 clear h
 replace H := Option.bind_eq_some_iff.mp H
 obtain ⟨⟨t161, t162⟩, A30, H⟩ := H
 replace H : ((ab_.f t161 a1).bind fun t163 => (some (t163, t162))) = some (r1, r2) := H
 have A3 := ba_.mk A30
 clear A30
 replace H := Option.bind_eq_some_iff.mp H
 obtain ⟨t163, A40, H⟩ := H
 replace H : (some (t163, t162)) = some (r1, r2) := H
 have A4 := ba_.mk A40
 clear A40
 simp only [Option.some.injEq, Prod.mk.injEq] at H
 obtain ⟨rfl, rfl⟩ := H
 go_enter Try.func26, Try.ntmps26
 go_wp2_with (first | ((with_reducible refine ua_ (f := 42) rfl ?_); refine hc_ (some 6) rfl rfl Try.func42 (by kernel_rfl) rfl #[.pointer (some ⟨g, 0, none⟩)] rfl (by (try simp only [List.map_toArray, List.map_cons, List.map_nil]); first | done | rfl | (simp only [List.length_drop, List.length_take]; rfl)) ?_; (with_reducible refine (lb_.calls g s0_0 s0_1 t161 t162 w0 _ ?side1 ?side2 A3.out).mono ?_); (case side1 => repeat (first | (with_reducible first | exact HI0.out | apply ia_.alloc | apply ia_.drewN | apply ia_.drew | apply ia_.ic_) | exact HI0.out)); (case side2 => repeat (first | (with_reducible first | exact HB.out | apply fa_ | apply ca_ | apply ga_ | refine qa_ ?_ (ia_.ge HI0.out)) | exact HB.out)); rintro e w5 ⟨rfl, hi, hb, hk⟩; refine ⟨_, rfl, ?_⟩; have n0_ := ba_.mk (xa_.trans (by repeat (first | (with_reducible first | exact HK.out | apply xa_.set_ | apply kb_ | apply rb_ | apply jb_) | exact HK.out)) hk (.inl rfl)); have n1_ := ba_.mk (hb); have n2_ := ba_.mk (hi); clear HK; clear HB; clear HI0; have HK := n0_; have HB := n1_; have HI0 := n2_; clear n0_ n1_ n2_; (try clear hb); (try clear hb2); (try clear hk); (try clear hi)) | ((with_reducible refine ua_ (f := 14) rfl ?_); refine hc_ (some 8) rfl rfl Try.func14 (by kernel_rfl) rfl #[.int .i64 t161, .int .i64 a1] rfl (by (try simp only [List.map_toArray, List.map_cons, List.map_nil]); first | done | rfl | (simp only [List.length_drop, List.length_take]; rfl)) ?_; (with_reducible refine (ab_.calls t161 a1 t163 _ A4.out).mono ?_); rintro e w' ⟨rfl, ⟨nd, rfl⟩⟩; refine ⟨_, rfl, ?_⟩))
 go_ret
 exact ⟨by first | rfl | (simp [bb_, cb_] <;> rfl) | (simp [*, bb_, cb_] <;> rfl), by repeat (first | (with_reducible first | exact HI0.out | apply ia_.alloc | apply ia_.drewN | apply ia_.drew | apply ia_.ic_) | exact HI0.out), by repeat (first | (with_reducible first | exact HB.out | apply fa_ | apply ca_ | apply ga_ | refine qa_ ?_ (ia_.ge HI0.out)) | exact HB.out), by repeat (first | (with_reducible first | exact HK.out | apply xa_.set_ | apply kb_ | apply rb_ | apply jb_) | exact HK.out)⟩
def oa_.f (s0_0 : List Int) (s0_1 : Int) (a1 : Int) (a2 : Int) : Option (Int × Int) := (na_.f s0_0 s0_1 (wrap64 ((wrap64 (a2 - a1)) + 1))).bind fun bt164 => (some (wrap64 (a1 + bt164.1), bt164.2))
set_option maxHeartbeats 8000000 in
set_option maxRecDepth 100000 in
theorem oa_.calls (g : Nat) (s0_0 : List Int) (s0_1 : Int) (a1 : Int) (a2 : Int) (r1 : Int) (r2 : Int) (w0 w : World) (hI : ia_ w0 w g s0_0 s0_1) (hB : Below w0.heap.size w0 w) (h : oa_.f s0_0 s0_1 a1 a2 = some (r1, r2)) :
  Calls Try.prog 31 #[.pointer (some ⟨g, 0, none⟩), .int .i64 a1, .int .i64 a2] w fun e w' => e = .returned (.int .i64 r1) ∧ ia_ w0 w' g s0_0 r2 ∧ Below w0.heap.size w0 w' ∧ xa_ w w' g none := by
 have HI0 := ba_.mk hI
 have HK := ba_.mk (xa_.refl w g none)
 have HL := ba_.mk hB.size
 clear hI
 have HW0 := ba_.mk hB.size
 have HB := ba_.mk hB
 clear hB
 have H : ((na_.f s0_0 s0_1 (wrap64 ((wrap64 (a2 - a1)) + 1))).bind fun bt164 => (some (wrap64 (a1 + bt164.1), bt164.2))) = some (r1, r2) := h
 clear h
 replace H := Option.bind_eq_some_iff.mp H
 obtain ⟨⟨t164, t165⟩, A40, H⟩ := H
 replace H : (some (wrap64 (a1 + t164), t165)) = some (r1, r2) := H
 have A4 := ba_.mk A40
 clear A40
 simp only [Option.some.injEq, Prod.mk.injEq] at H
 obtain ⟨rfl, rfl⟩ := H
 go_enter Try.func31, Try.ntmps31
 go_wp2_with (first | ((with_reducible refine ua_ (f := 26) rfl ?_); refine hc_ (some 13) rfl rfl Try.func26 (by kernel_rfl) rfl #[.pointer (some ⟨g, 0, none⟩), .int .i64 (wrap64 ((wrap64 (a2 - a1)) + 1))] rfl (by (try simp only [List.map_toArray, List.map_cons, List.map_nil]); first | done | rfl | (simp only [List.length_drop, List.length_take]; rfl)) ?_; (with_reducible refine (na_.calls g s0_0 s0_1 (wrap64 ((wrap64 (a2 - a1)) + 1)) t164 t165 w0 _ ?side1 ?side2 A4.out).mono ?_); (case side1 => repeat (first | (with_reducible first | exact HI0.out | apply ia_.alloc | apply ia_.drewN | apply ia_.drew | apply ia_.ic_) | exact HI0.out)); (case side2 => repeat (first | (with_reducible first | exact HB.out | apply fa_ | apply ca_ | apply ga_ | refine qa_ ?_ (ia_.ge HI0.out)) | exact HB.out)); rintro e w5 ⟨rfl, hi, hb, hk⟩; refine ⟨_, rfl, ?_⟩; have n0_ := ba_.mk (xa_.trans (by repeat (first | (with_reducible first | exact HK.out | apply xa_.set_ | apply kb_ | apply rb_ | apply jb_) | exact HK.out)) hk (.inl rfl)); have n1_ := ba_.mk (hb); have n2_ := ba_.mk (hi); clear HK; clear HB; clear HI0; have HK := n0_; have HB := n1_; have HI0 := n2_; clear n0_ n1_ n2_; (try clear hb); (try clear hb2); (try clear hk); (try clear hi)))
 go_ret
 exact ⟨by first | rfl | (simp [bb_, cb_] <;> rfl) | (simp [*, bb_, cb_] <;> rfl), by repeat (first | (with_reducible first | exact HI0.out | apply ia_.alloc | apply ia_.drewN | apply ia_.drew | apply ia_.ic_) | exact HI0.out), by repeat (first | (with_reducible first | exact HB.out | apply fa_ | apply ca_ | apply ga_ | refine qa_ ?_ (ia_.ge HI0.out)) | exact HB.out), by repeat (first | (with_reducible first | exact HK.out | apply xa_.set_ | apply kb_ | apply rb_ | apply jb_) | exact HK.out)⟩
def va_.l0 : Nat → Int → Int → List Int → Int → List Int → Int → Option (List Int × Int)
 | 0, _, _, _, _, _, _ => none
 | k + 1, x2, x3, x9, x10, x1000, x1001 => if x10 > 0 then ((oa_.f x1000 x1001 x2 x3).bind fun bt168 => (if x9.length < 17592186044416 then (va_.l0 k x2 x3 (x9 ++ [bt168.1]) (wrap64 (x10 - 1)) x1000 bt168.2) else (none))) else (some (x9, x1001))
def va_.f (k : Nat) (s0_0 : List Int) (s0_1 : Int) (a1 : Int) (a2 : Int) (a3 : Int) : Option (List Int × Int) := (oa_.f s0_0 s0_1 0 a1).bind fun bt166 => (va_.l0 k a2 a3 ([] : List Int) bt166.1 s0_0 bt166.2)
theorem va_.xc_ : ∀ k, (∀ y0 y1 y2 y3 y4 y5, LeO (va_.l0 k y0 y1 y2 y3 y4 y5) (va_.l0 (k + 1) y0 y1 y2 y3 y4 y5))
 | 0 => fun _ _ _ _ _ _ r h => by simp [va_.l0] at h
 | k + 1 => by
  have ih0 := va_.xc_ k
  ·intro y0 y1 y2 y3 y4 y5
   unfold va_.l0
   repeat' first
   | (with_reducible exact ih0 _ _ _ _ _ _)
   | (with_reducible exact LeO.refl _)
   | (with_reducible exact LeO.none _)
   | (with_reducible refine LeO.ite ?_ ?_)
   | (with_reducible refine LeO.bind ?_ (fun _ => ?_))
   | exact ih0 _ _ _ _ _ _
   | exact LeO.none _
   | refine LeO.ite ?_ ?_
   | refine LeO.bind ?_ (fun _ => ?_)
theorem va_.mono : ∀ a0 a1 a2 a3 a4 k, LeO (va_.f k a0 a1 a2 a3 a4) (va_.f (k + 1) a0 a1 a2 a3 a4) := by
 intro a0 a1 a2 a3 a4 k
 have ih0 := va_.xc_ k
 unfold va_.f
 repeat' first
   | (with_reducible exact ih0 _ _ _ _ _ _)
   | (with_reducible exact LeO.refl _)
   | (with_reducible exact LeO.none _)
   | (with_reducible refine LeO.ite ?_ ?_)
   | (with_reducible refine LeO.bind ?_ (fun _ => ?_))
   | exact ih0 _ _ _ _ _ _
   | exact LeO.none _
   | refine LeO.ite ?_ ?_
   | refine LeO.bind ?_ (fun _ => ?_)
set_option maxHeartbeats 8000000 in
set_option maxRecDepth 100000 in
theorem va_.calls (k : Nat) (g : Nat) (s0_0 : List Int) (s0_1 : Int) (a1 : Int) (a2 : Int) (a3 : Int) (r1 : List Int) (r2 : Int) (w0 w : World) (hI : ia_ w0 w g s0_0 s0_1) (hB : Below w0.heap.size w0 w) (h : va_.f k s0_0 s0_1 a1 a2 a3 = some (r1, r2)) :
  Calls Try.prog 23 #[.pointer (some ⟨g, 0, none⟩), .int .i64 a1, .int .i64 a2, .int .i64 a3] w fun e w' => ∃ v0_ : Value, e = .returned (v0_) ∧ Kd.R (Kd.int .i64) 3 w' w.heap.size (fun _ => True) v0_ r1 ∧ ia_ w0 w' g s0_0 r2 ∧ Below w0.heap.size w0 w' ∧ xa_ w w' g none := by
 have HI0 := ba_.mk hI
 have HK := ba_.mk (xa_.refl w g none)
 have HL := ba_.mk hB.size
 clear hI
 have HW0 := ba_.mk hB.size
 have HB := ba_.mk hB
 clear hB
 have H : ((oa_.f s0_0 s0_1 0 a1).bind fun bt166 => (va_.l0 k a2 a3 ([] : List Int) bt166.1 s0_0 bt166.2)) = some (r1, r2) := h
 clear h
 replace H := Option.bind_eq_some_iff.mp H
 obtain ⟨⟨t166, t167⟩, A50, H⟩ := H
 replace H : (va_.l0 k a2 a3 ([] : List Int) t166 s0_0 t167) = some (r1, r2) := H
 have A5 := ba_.mk A50
 clear A50
 have H' := ba_.mk H
 clear H
 go_enter Try.func23, Try.ntmps23
 go_wp2_with (first | ((with_reducible refine ua_ (f := 31) rfl ?_); refine hc_ (some 13) rfl rfl Try.func31 (by kernel_rfl) rfl #[.pointer (some ⟨g, 0, none⟩), .int .i64 0, .int .i64 a1] rfl (by (try simp only [List.map_toArray, List.map_cons, List.map_nil]); first | done | rfl | (simp only [List.length_drop, List.length_take]; rfl)) ?_; (with_reducible refine (oa_.calls g s0_0 s0_1 0 a1 t166 t167 w0 _ ?side1 ?side2 A5.out).mono ?_); (case side1 => repeat (first | (with_reducible first | exact HI0.out | apply ia_.alloc | apply ia_.drewN | apply ia_.drew | apply ia_.ic_) | exact HI0.out)); (case side2 => repeat (first | (with_reducible first | exact HB.out | apply fa_ | apply ca_ | apply ga_ | refine qa_ ?_ (ia_.ge HI0.out)) | exact HB.out)); rintro e w6 ⟨rfl, hi, hb, hk⟩; refine ⟨_, rfl, ?_⟩; have n0_ := ba_.mk (xa_.trans (by repeat (first | (with_reducible first | exact HK.out | apply xa_.set_ | apply kb_ | apply rb_ | apply jb_) | exact HK.out)) hk (.inl rfl)); have n1_ := ba_.mk (hb); have n2_ := ba_.mk (hi); clear HK; clear HB; clear HI0; have HK := n0_; have HB := n1_; have HI0 := n2_; clear n0_ n1_ n2_; (try clear hb); (try clear hb2); (try clear hk); (try clear hi)))
 go_loopg [9, 10] k (fun kq v9 v10 w' => ∃ (x9_1 : List Int) (x10_1 : Int) (x1001_1 : Int), v10 = .int .i64 x10_1 ∧ ba_ (va_.l0 kq a2 a3 x9_1 x10_1 s0_0 x1001_1 = some (r1, r2)) ∧ ba_ (kq ≤ k) ∧ ba_ (Kd.R (Kd.int .i64) 3 w' w.heap.size (fun _ => True) v9 x9_1) ∧ ba_ (ia_ w0 w' g s0_0 x1001_1) ∧ ba_ (xa_ w w' g none) ∧ ba_ (Below w0.heap.size w0 w'))
 case atStart => exact ⟨(([] : List Int)), (t166), (t167), (by first | rfl | (simp; done) | (simp [*]; done)), H', ⟨Nat.le_refl _⟩, ⟨by first | exact Kd.uf_ _ _ _ _ _ | exact Kd.mh_ _ _ _ _ _ | exact Kd.ph_ _ _ _ _ _ | exact Kd.nh_ _ _ _ _ _ | exact Kd.oh_ _ _ _ _ _⟩, ⟨by repeat (first | (with_reducible first | exact HI0.out | apply ia_.alloc | apply ia_.drewN | apply ia_.drew | apply ia_.ic_) | exact HI0.out)⟩, ⟨by repeat (first | (with_reducible first | exact HK.out | apply xa_.set_ | apply kb_ | apply rb_ | apply jb_) | exact HK.out)⟩, ⟨by repeat (first | (with_reducible first | exact HB.out | apply fa_ | apply ca_ | apply ga_ | refine qa_ ?_ (ia_.ge HI0.out)) | exact HB.out)⟩⟩
 case round =>
  clear H'
  try clear c2
  try clear p2
  try clear c3
  obtain ⟨x9_1, x10_1, x1001_1, rfl, HA, HK1, HO_9, HI0, HK, HB⟩ := hrel
  cases gk with
  | zero => exact absurd HA.out (by simp [va_.l0])
  | succ k1 =>
   have H := HA.out
   clear HA
   simp only [va_.l0] at H
   by_cases c7 : x10_1 > 0
   ·rw [if_pos c7] at H
    have c7b0 : decide (0 < x10_1) = true := decide_eq_true c7
    clear c7
    replace H := Option.bind_eq_some_iff.mp H
    obtain ⟨⟨t168, t169⟩, A80, H⟩ := H
    replace H : (if x9_1.length < 17592186044416 then (va_.l0 k1 a2 a3 (x9_1 ++ [t168]) (wrap64 (x10_1 - 1)) s0_0 t169) else (none)) = some (r1, r2) := H
    have A8 := ba_.mk A80
    clear A80
    by_cases c9 : x9_1.length < 17592186044416
    ·rw [if_pos c9] at H
     have LMc9 := ba_.mk c9
     clear c9
     obtain ⟨y170, hy170⟩ : ∃ y_ : List Int, y_ = (x9_1 ++ [t168]) := ⟨_, rfl⟩
     replace H : (va_.l0 k1 a2 a3 y170 (wrap64 (x10_1 - 1)) s0_0 t169) = some (r1, r2) := by first | (rw [hy170]; with_reducible exact H) | (have H2_ := (Option.bind_some _ _).symm.trans H; rw [hy170]; with_reducible exact H2_) | (have H2_ := (Option.bind_some _ _).symm.trans H; with_reducible exact H2_) | with_reducible exact H | (rw [hy170]; exact H) | exact H
     have Ny170 := ba_.mk hy170
     clear hy170
     have H' := ba_.mk H
     clear H
     go_wp2_with (first | ((with_reducible refine ua_ (f := 31) rfl ?_); refine hc_ (some 22) rfl rfl Try.func31 (by kernel_rfl) rfl #[.pointer (some ⟨g, 0, none⟩), .int .i64 a2, .int .i64 a3] rfl (by (try simp only [List.map_toArray, List.map_cons, List.map_nil]); first | done | rfl | (simp only [List.length_drop, List.length_take]; rfl)) ?_; (with_reducible refine (oa_.calls g s0_0 x1001_1 a2 a3 t168 t169 w0 _ ?side1 ?side2 A8.out).mono ?_); (case side1 => repeat (first | (with_reducible first | exact HI0.out | apply ia_.alloc | apply ia_.drewN | apply ia_.drew | apply ia_.ic_) | exact HI0.out)); (case side2 => repeat (first | (with_reducible first | exact HB.out | apply fa_ | apply ca_ | apply ga_ | refine qa_ ?_ (ia_.ge HI0.out)) | exact HB.out)); rintro e w10 ⟨rfl, hi, hb, hk⟩; refine ⟨_, rfl, ?_⟩; have n0_ := ba_.mk (Kd.bc_ (Kd.ne_ (ia_.apart (show ia_ w0 _ g s0_0 x1001_1 from by repeat (first | (with_reducible first | exact HI0.out | apply ia_.alloc | apply ia_.drewN | apply ia_.drew | apply ia_.ic_) | exact HI0.out)) (by (with_reducible repeat (first | apply Kd.la_ | apply Kd.ka_ | apply Kd.ma_)); exact HO_9.out) (by decide)) hk (fun _ h => h.2)) (fun _ h => h.1)); have n1_ := ba_.mk (xa_.trans (by repeat (first | (with_reducible first | exact HK.out | apply xa_.set_ | apply kb_ | apply rb_ | apply jb_) | exact HK.out)) hk (.inl rfl)); have n2_ := ba_.mk (hb); have n3_ := ba_.mk (hi); clear HO_9; clear HK; clear HB; clear HI0; have HO_9 := n0_; have HK := n1_; have HB := n2_; have HI0 := n3_; clear n0_ n1_ n2_ n3_; (try clear hb); (try clear hb2); (try clear hk); (try clear hi)) | ((with_reducible refine hd_ (b := .append) (xs := #[.tmp 18, .tmp 23]) rfl ?_); at_builtin; refine Kd.qe_ (Kd.int .i64) w.heap.size rfl (.tmp 18) (.tmp 23) 27 3 (.int .i64 0) 8 rfl Try.underlying27 te_ rfl (by decide) (by omega) u9 x9_1 t168 [.int .i64 t168] (fun _ => True) (fun _ => False) rfl rfl ?aP (fun _ hk => hk.elim) ?aF ?aO (Below.refl _ _) ?aS ?aL ?_; (case aP => exact rfl); (case aF => exact (fun _ _ => trivial)); (case aO => exact (by (with_reducible repeat (first | apply Kd.la_ | apply Kd.ka_ | apply Kd.ma_)); exact HO_9.out)); (case aS => exact (we_ (w := w) (g := g) (row := none) (by repeat (first | (with_reducible first | exact HK.out | apply xa_.set_ | apply kb_ | apply rb_ | apply jb_) | exact HK.out)))); (case aL => have := LMc9.out; omega); intro v171 w11 ho hb hg hat; rw [← Ny170.out] at ho; have n0_ := ba_.mk (ia_.grown (by repeat (first | (with_reducible first | exact HI0.out | apply ia_.alloc | apply ia_.drewN | apply ia_.drew | apply ia_.ic_) | exact HI0.out)) hg (ia_.fe_ HI0.out HO_9.out (by decide))); have n1_ := ba_.mk (se_ (by repeat (first | (with_reducible first | exact HB.out | apply fa_ | apply ca_ | apply ga_ | refine qa_ ?_ (ia_.ge HI0.out)) | exact HB.out)) HL.out hb); have n2_ := ba_.mk (xa_.trans (by repeat (first | (with_reducible first | exact HK.out | apply xa_.set_ | apply kb_ | apply rb_ | apply jb_) | exact HK.out)) (xa_.mf_ hg g) (Kd.eh_ HO_9.out)); have n3_ := ba_.mk (ho); clear HI0; clear HB; clear HK; clear HO_9; have HI0 := n0_; have HB := n1_; have HK := n2_; have HO172 := n3_; clear n0_ n1_ n2_ n3_; clear ho hb hg hat))
     go_roundg k1
     case measure => have := HK1.out; omega
     case rel => exact ⟨(y170), (wrap64 (x10_1 - 1)), (t169), (by first | rfl | (simp; done) | (simp [*]; done)), H', ⟨by have := HK1.out; omega⟩, ⟨by (with_reducible repeat (first | apply Kd.la_ | apply Kd.ka_ | apply Kd.ma_)); exact HO172.out⟩, ⟨by repeat (first | (with_reducible first | exact HI0.out | apply ia_.alloc | apply ia_.drewN | apply ia_.drew | apply ia_.ic_) | exact HI0.out)⟩, ⟨by repeat (first | (with_reducible first | exact HK.out | apply xa_.set_ | apply kb_ | apply rb_ | apply jb_) | exact HK.out)⟩, ⟨by repeat (first | (with_reducible first | exact HB.out | apply fa_ | apply ca_ | apply ga_ | refine qa_ ?_ (ia_.ge HI0.out)) | exact HB.out)⟩⟩
    ·rw [if_neg c9] at H
     exact absurd H (by simp)
   ·rw [if_neg c7] at H
    have c7b0 : decide (0 < x10_1) = false := decide_eq_false c7
    clear c7
    simp only [Option.some.injEq, Prod.mk.injEq] at H
    obtain ⟨rfl, rfl⟩ := H
    go_wp2
    go_ret
    exact ⟨_, by first | rfl | (simp [bb_, cb_] <;> rfl) | (simp [*, bb_, cb_] <;> rfl), by (with_reducible repeat (first | apply Kd.la_ | apply Kd.ka_ | apply Kd.ma_)); exact HO_9.out, by repeat (first | (with_reducible first | exact HI0.out | apply ia_.alloc | apply ia_.drewN | apply ia_.drew | apply ia_.ic_) | exact HI0.out), by repeat (first | (with_reducible first | exact HB.out | apply fa_ | apply ca_ | apply ga_ | refine qa_ ?_ (ia_.ge HI0.out)) | exact HB.out), by repeat (first | (with_reducible first | exact HK.out | apply xa_.set_ | apply kb_ | apply rb_ | apply jb_) | exact HK.out)⟩
def xb_.f (s0_0 : List Int) (s0_1 : Int) (a1 : Int) : Option (Bool × Int) := (na_.f s0_0 s0_1 a1).bind fun bt173 => (some ((bt173.1 == (wrap64 (a1 - 1))), bt173.2))
set_option maxHeartbeats 8000000 in
set_option maxRecDepth 100000 in
theorem xb_.calls (g : Nat) (s0_0 : List Int) (s0_1 : Int) (a1 : Int) (r1 : Bool) (r2 : Int) (w0 w : World) (hI : ia_ w0 w g s0_0 s0_1) (hB : Below w0.heap.size w0 w) (h : xb_.f s0_0 s0_1 a1 = some (r1, r2)) :
  Calls Try.prog 24 #[.pointer (some ⟨g, 0, none⟩), .int .i64 a1] w fun e w' => e = .returned (.bool r1) ∧ ia_ w0 w' g s0_0 r2 ∧ Below w0.heap.size w0 w' ∧ xa_ w w' g none := by
 have HI0 := ba_.mk hI
 have HK := ba_.mk (xa_.refl w g none)
 have HL := ba_.mk hB.size
 clear hI
 have HW0 := ba_.mk hB.size
 have HB := ba_.mk hB
 clear hB
 have H : ((na_.f s0_0 s0_1 a1).bind fun bt173 => (some ((bt173.1 == (wrap64 (a1 - 1))), bt173.2))) = some (r1, r2) := h
 clear h
 replace H := Option.bind_eq_some_iff.mp H
 obtain ⟨⟨t173, t174⟩, A30, H⟩ := H
 replace H : (some ((t173 == (wrap64 (a1 - 1))), t174)) = some (r1, r2) := H
 have A3 := ba_.mk A30
 clear A30
 simp only [Option.some.injEq, Prod.mk.injEq] at H
 obtain ⟨rfl, rfl⟩ := H
 go_enter Try.func24, Try.ntmps24
 go_wp2_with (first | ((with_reducible refine ua_ (f := 26) rfl ?_); refine hc_ (some 7) rfl rfl Try.func26 (by kernel_rfl) rfl #[.pointer (some ⟨g, 0, none⟩), .int .i64 a1] rfl (by (try simp only [List.map_toArray, List.map_cons, List.map_nil]); first | done | rfl | (simp only [List.length_drop, List.length_take]; rfl)) ?_; (with_reducible refine (na_.calls g s0_0 s0_1 a1 t173 t174 w0 _ ?side1 ?side2 A3.out).mono ?_); (case side1 => repeat (first | (with_reducible first | exact HI0.out | apply ia_.alloc | apply ia_.drewN | apply ia_.drew | apply ia_.ic_) | exact HI0.out)); (case side2 => repeat (first | (with_reducible first | exact HB.out | apply fa_ | apply ca_ | apply ga_ | refine qa_ ?_ (ia_.ge HI0.out)) | exact HB.out)); rintro e w4 ⟨rfl, hi, hb, hk⟩; refine ⟨_, rfl, ?_⟩; have n0_ := ba_.mk (xa_.trans (by repeat (first | (with_reducible first | exact HK.out | apply xa_.set_ | apply kb_ | apply rb_ | apply jb_) | exact HK.out)) hk (.inl rfl)); have n1_ := ba_.mk (hb); have n2_ := ba_.mk (hi); clear HK; clear HB; clear HI0; have HK := n0_; have HB := n1_; have HI0 := n2_; clear n0_ n1_ n2_; (try clear hb); (try clear hb2); (try clear hk); (try clear hi)))
 go_ret
 exact ⟨by first | rfl | (simp [bb_, cb_] <;> rfl) | (simp [*, bb_, cb_] <;> rfl), by repeat (first | (with_reducible first | exact HI0.out | apply ia_.alloc | apply ia_.drewN | apply ia_.drew | apply ia_.ic_) | exact HI0.out), by repeat (first | (with_reducible first | exact HB.out | apply fa_ | apply ca_ | apply ga_ | refine qa_ ?_ (ia_.ge HI0.out)) | exact HB.out), by repeat (first | (with_reducible first | exact HK.out | apply xa_.set_ | apply kb_ | apply rb_ | apply jb_) | exact HK.out)⟩
end Go.Proofs.Ytpkhgapifnjbeaa.Y
end
section
namespace Go.Proofs.Ytpkhgapifnjbeaa.Y
open Go.RowKit Go.Proofs.Ytpkhgapifnjbeaa.G Go.Proofs.Ytpkhgapifnjbeaa.Rs Go.Proofs.YtpkhgapifnjbeaaW.PrintWords Go.Proofs.YtpkhgapifnjbeaaW.PrintLast Go.Proofs.YtpkhgapifnjbeaaW.PrintMore
attribute [local go_sem] dd_ fd_ rd_ sd_ uc_ vc_ ed_ gd_
set_option linter.unusedVariables false
set_option linter.unusedSimpArgs false
def tb_.l0 : Nat → List Int → List Int → Int → Int → Int → Option (Int)
 | 0, _, _, _, _, _ => none
 | k + 1, x0, x1, x5, x13, x14 => if x14 < x13 then (if 0 ≤ x14 then (if x14 < (x0.length : Int) then (if x14 < (x1.length : Int) then (if (rd x0 x14) = (rd x1 x14) then (tb_.l0 k x0 x1 x5 x13 (wrap64 (x14 + 1))) else (tb_.l0 k x0 x1 (wrap64 (x5 + 1)) x13 (wrap64 (x14 + 1)))) else (none)) else (none)) else (none)) else (some x5)
def tb_.f (k : Nat) (l0 : List Int) (l1 : List Int) : Option (Int) := if (l0.length : Int) = (l1.length : Int) then (tb_.l0 k l0 l1 0 (l0.length : Int) 0) else (some (-1))
theorem tb_.xc_ : ∀ k, (∀ y0 y1 y2 y3 y4, LeO (tb_.l0 k y0 y1 y2 y3 y4) (tb_.l0 (k + 1) y0 y1 y2 y3 y4))
 | 0 => fun _ _ _ _ _ r h => by simp [tb_.l0] at h
 | k + 1 => by
  have ih0 := tb_.xc_ k
  ·intro y0 y1 y2 y3 y4
   unfold tb_.l0
   repeat' first
   | (with_reducible exact ih0 _ _ _ _ _)
   | (with_reducible exact LeO.refl _)
   | (with_reducible exact LeO.none _)
   | (with_reducible refine LeO.ite ?_ ?_)
   | (with_reducible refine LeO.bind ?_ (fun _ => ?_))
   | exact ih0 _ _ _ _ _
   | exact LeO.none _
   | refine LeO.ite ?_ ?_
   | refine LeO.bind ?_ (fun _ => ?_)
theorem tb_.mono : ∀ a0 a1 k, LeO (tb_.f k a0 a1) (tb_.f (k + 1) a0 a1) := by
 intro a0 a1 k
 have ih0 := tb_.xc_ k
 unfold tb_.f
 repeat' first
   | (with_reducible exact ih0 _ _ _ _ _)
   | (with_reducible exact LeO.refl _)
   | (with_reducible exact LeO.none _)
   | (with_reducible refine LeO.ite ?_ ?_)
   | (with_reducible refine LeO.bind ?_ (fun _ => ?_))
   | exact ih0 _ _ _ _ _
   | exact LeO.none _
   | refine LeO.ite ?_ ?_
   | refine LeO.bind ?_ (fun _ => ?_)
set_option maxHeartbeats 8000000 in
set_option maxRecDepth 100000 in
theorem tb_.calls (k : Nat) (A0 : Option Addr) (c0 : Nat) (l0 : List Int) (A1 : Option Addr) (c1 : Nat) (l1 : List Int) (r : Int) (w : World) (hr0 : Kd.C (Kd.int .i64) w A0 l0.length l0) (hc0 : l0.length ≤ c0) (hr1 : Kd.C (Kd.int .i64) w A1 l1.length l1) (hc1 : l1.length ≤ c1) (h : tb_.f k l0 l1 = some r) :
  Calls Try.prog 36 #[.slice A0 l0.length c0, .slice A1 l1.length c1] w fun e w' => e = .returned (.int .i64 r) ∧ ra_ w w' := by
 have HR0 := ba_.mk hr0
 have HC0 := ba_.mk hc0
 clear hr0 hc0
 have HR1 := ba_.mk hr1
 have HC1 := ba_.mk hc1
 clear hr1 hc1
 have H : (if (l0.length : Int) = (l1.length : Int) then (tb_.l0 k l0 l1 0 (l0.length : Int) 0) else (some (-1))) = some r := h
 clear h
 by_cases c3 : (l0.length : Int) = (l1.length : Int)
 ·rw [if_pos c3] at H
  have c3b0 : ((l0.length : Int) == (l1.length : Int)) = true := beq_iff_eq.mpr c3
  try have c3b9 := eq_true (beq_iff_eq.mp c3b0)
  have c3b1 : ((l0.length : Int) != (l1.length : Int)) = false := bne_eq_false_iff_eq.mpr c3
  have c3b2 : (l0.length == l1.length) = true := by first | simpa using c3 | (simp at c3 ⊢; omega)
  clear c3
  have H' := ba_.mk H
  clear H
  go_enter Try.func36, Try.ntmps36
  go_wp2
  repeat (go_quiet (fail); try go_wp2)
  go_loopg [5, 14] k (fun kq v5 v14 w' => ∃ (x5_1 : Int) (x14_1 : Int), v5 = .int .i64 x5_1 ∧ v14 = .int .i64 x14_1 ∧ ba_ (tb_.l0 kq l0 l1 x5_1 (l0.length : Int) x14_1 = some r) ∧ ba_ (kq ≤ k) ∧ ra_ w w')
  case atStart => exact ⟨(0), (0), (by first | rfl | (simp; done) | (simp [*]; done)), (by first | rfl | (simp; done) | (simp [*]; done)), H', ⟨Nat.le_refl _⟩, by repeat (first | exact ra_.refl _ | apply ra_.step)⟩
  case round =>
   clear H'
   try clear c1
   try clear p2
   try clear c3
   try clear c3b0
   try clear c3b1
   try clear c3b2
   obtain ⟨x5_1, x14_1, rfl, rfl, HA, HK1, ⟨m1, rfl⟩⟩ := hrel
   cases gk with
   | zero => exact absurd HA.out (by simp [tb_.l0])
   | succ k1 =>
    have H := HA.out
    clear HA
    simp only [tb_.l0] at H
    by_cases c4 : x14_1 < (l0.length : Int)
    ·rw [if_pos c4] at H
     have c4b0 : decide (x14_1 < (l0.length : Int)) = true := decide_eq_true c4
     clear c4
     by_cases c5 : 0 ≤ x14_1
     ·rw [if_pos c5] at H
      have c5b0 : decide (0 ≤ x14_1) = true := decide_eq_true c5
      clear c5
      by_cases c6 : x14_1 < (l0.length : Int)
      ·rw [if_pos c6] at H
       have c6b0 : decide (x14_1 < (l0.length : Int)) = true := decide_eq_true c6
       clear c6
       by_cases c7 : x14_1 < (l1.length : Int)
       ·rw [if_pos c7] at H
        have c7b0 : decide (x14_1 < (l1.length : Int)) = true := decide_eq_true c7
        clear c7
        by_cases c8 : (rd l0 x14_1) = (rd l1 x14_1)
        ·rw [if_pos c8] at H
         have c8b0 : ((rd l0 x14_1) == (rd l1 x14_1)) = true := beq_iff_eq.mpr c8
         try have c8b9 := eq_true (beq_iff_eq.mp c8b0)
         have c8b1 : ((rd l0 x14_1) != (rd l1 x14_1)) = false := bne_eq_false_iff_eq.mpr c8
         clear c8
         have H' := ba_.mk H
         clear H
         have p369 : 0 ≤ (x14_1 : Int) := of_decide_eq_true (by first | (with_reducible assumption) | assumption)
         have q369 : x14_1 < (l0.length : Int) := of_decide_eq_true (by first | (with_reducible assumption) | assumption)
         obtain ⟨ad369, e369, hx369_0⟩ := Kd.nd_ HR0.out x14_1 p369 q369
         cases e369
         replace p369 := eq_true p369
         replace q369 := eq_true q369
         have p370 : 0 ≤ (x14_1 : Int) := of_decide_eq_true (by first | (with_reducible assumption) | assumption)
         have q370 : x14_1 < (l1.length : Int) := of_decide_eq_true (by first | (with_reducible assumption) | assumption)
         obtain ⟨ad370, e370, hx370_0⟩ := Kd.nd_ HR1.out x14_1 p370 q370
         cases e370
         replace p370 := eq_true p370
         replace q370 := eq_true q370
         go_wp2
         repeat (go_quiet (fail); try go_wp2)
         go_roundg k1
         case measure => have := HK1.out; omega
         case rel => exact ⟨(x5_1), (wrap64 (x14_1 + 1)), (by first | rfl | (simp; done) | (simp [*]; done)), (by first | rfl | (simp; done) | (simp [*]; done)), H', ⟨by have := HK1.out; omega⟩, by repeat (first | exact ra_.refl _ | apply ra_.step)⟩
        ·rw [if_neg c8] at H
         have c8b0 : ((rd l0 x14_1) == (rd l1 x14_1)) = false := beq_eq_false_iff_ne.mpr c8
         try have c8b9 := eq_false (beq_eq_false_iff_ne.mp c8b0)
         have c8b1 : ((rd l0 x14_1) != (rd l1 x14_1)) = true := bne_iff_ne.mpr c8
         have H' := ba_.mk H
         clear H
         have p369 : 0 ≤ (x14_1 : Int) := of_decide_eq_true (by first | (with_reducible assumption) | assumption)
         have q369 : x14_1 < (l0.length : Int) := of_decide_eq_true (by first | (with_reducible assumption) | assumption)
         obtain ⟨ad369, e369, hx369_0⟩ := Kd.nd_ HR0.out x14_1 p369 q369
         cases e369
         replace p369 := eq_true p369
         replace q369 := eq_true q369
         have p370 : 0 ≤ (x14_1 : Int) := of_decide_eq_true (by first | (with_reducible assumption) | assumption)
         have q370 : x14_1 < (l1.length : Int) := of_decide_eq_true (by first | (with_reducible assumption) | assumption)
         obtain ⟨ad370, e370, hx370_0⟩ := Kd.nd_ HR1.out x14_1 p370 q370
         cases e370
         replace p370 := eq_true p370
         replace q370 := eq_true q370
         go_wp2
         repeat (go_quiet (fail); try go_wp2)
         go_roundg k1
         case measure => have := HK1.out; omega
         case rel => exact ⟨(wrap64 (x5_1 + 1)), (wrap64 (x14_1 + 1)), (by first | rfl | (simp; done) | (simp [*]; done)), (by first | rfl | (simp; done) | (simp [*]; done)), H', ⟨by have := HK1.out; omega⟩, by repeat (first | exact ra_.refl _ | apply ra_.step)⟩
       ·rw [if_neg c7] at H
        exact absurd H (by simp)
      ·rw [if_neg c6] at H
       exact absurd H (by simp)
     ·rw [if_neg c5] at H
      exact absurd H (by simp)
    ·rw [if_neg c4] at H
     have c4b0 : decide (x14_1 < (l0.length : Int)) = false := decide_eq_false c4
     clear c4
     obtain rfl := Option.some.inj H
     go_wp2
     repeat (go_quiet (fail); try go_wp2)
     go_ret
     exact ⟨by first | rfl | (simp; done) | (simp [*]; done), by repeat (first | exact ra_.refl _ | apply ra_.step)⟩
 ·rw [if_neg c3] at H
  have c3b0 : ((l0.length : Int) == (l1.length : Int)) = false := beq_eq_false_iff_ne.mpr c3
  try have c3b9 := eq_false (beq_eq_false_iff_ne.mp c3b0)
  have c3b1 : ((l0.length : Int) != (l1.length : Int)) = true := bne_iff_ne.mpr c3
  have c3b2 : (l0.length == l1.length) = false := by first | simpa using c3 | (simp at c3 ⊢; omega)
  obtain rfl := Option.some.inj H
  go_enter Try.func36, Try.ntmps36
  go_wp2
  repeat (go_quiet (fail); try go_wp2)
  go_ret
  exact ⟨by first | rfl | (simp; done) | (simp [*]; done), by repeat (first | exact ra_.refl _ | apply ra_.step)⟩
end Go.Proofs.Ytpkhgapifnjbeaa.Y
end
section
namespace Go.Proofs.Ytpkhgapifnjbeaa.Y
open Go.RowKit Go.Proofs.Ytpkhgapifnjbeaa.G Go.Proofs.Ytpkhgapifnjbeaa.Rs Go.Proofs.YtpkhgapifnjbeaaW.PrintWords Go.Proofs.YtpkhgapifnjbeaaW.PrintLast Go.Proofs.YtpkhgapifnjbeaaW.PrintMore
attribute [local go_sem] dd_ fd_ rd_ sd_ uc_ vc_ ed_ gd_
set_option linter.unusedVariables false
set_option linter.unusedSimpArgs false
def pb_.l0 : Nat → List Int → List Int → Int → List Int → Int → Option (Bool)
 | 0, _, _, _, _, _ => none
 | k + 1, x4, x5, x6, x374000, x374001 => if x6 < (x5.length : Int) then ((xb_.f x374000 x374001 3).bind fun bt389 => (if bt389.1 = true then ((na_.f x374000 bt389.2 32).bind fun bt391 => (if 0 ≤ x6 then (pb_.l0 k x4 (x5.set (x6 : Int).toNat bt391.1) (wrap64 (x6 + 1)) x374000 bt391.2) else (none))) else (pb_.l0 k x4 x5 (wrap64 (x6 + 1)) x374000 bt389.2))) else ((ge_.f x4).bind fun bt394 => ((ge_.f x5).bind fun bt398 => ((tb_.f k bt394.1 bt398.1).bind fun t402 => ((aa_.f k x4 x5).bind fun t403 => (if t403 = true then (if bt394.2 = 0 then (if bt398.2 = 0 then (if t402 = 0 then ((ha_.f k).bind fun t404 => (some t404)) else (some false)) else (some false)) else (some false)) else (if bt394.2 = 0 then (if bt398.2 = 0 then (if t402 ≥ 7 then ((ha_.f k).bind fun t405 => (some t405)) else (some false)) else (some false)) else (some false)))))))
def pb_.f (k : Nat) (l0 : List Int) : Option (Bool) := (sb_.f l0).bind fun bt371 => ((va_.f k bt371.1 bt371.2 8 0 31).bind fun bt374 => ((na_.f bt371.1 bt374.2 32).bind fun bt378 => (if bt374.1.length < 17592186044416 then ((some (bt374.1 ++ [bt378.1] : List Int)).bind fun y380 => ((some (([] : List Int) : List Int)).bind fun y383 => (if y383.length + y380.length < 17592186044416 then (pb_.l0 k y380 (y383 ++ y380) 0 bt371.1 bt378.2) else (none)))) else (none))))
theorem pb_.xc_ : ∀ k, (∀ y0 y1 y2 y3 y4, LeO (pb_.l0 k y0 y1 y2 y3 y4) (pb_.l0 (k + 1) y0 y1 y2 y3 y4))
 | 0 => fun _ _ _ _ _ r h => by simp [pb_.l0] at h
 | k + 1 => by
  have ih0 := pb_.xc_ k
  ·intro y0 y1 y2 y3 y4
   unfold pb_.l0
   repeat' first
   | (with_reducible exact ih0 _ _ _ _ _)
   | (with_reducible exact ha_.mono _)
   | (with_reducible exact va_.mono _ _ _ _ _ _)
   | (with_reducible exact aa_.mono _ _ _)
   | (with_reducible exact tb_.mono _ _ _)
   | (with_reducible exact LeO.refl _)
   | (with_reducible exact LeO.none _)
   | (with_reducible refine LeO.ite ?_ ?_)
   | (with_reducible refine LeO.bind ?_ (fun _ => ?_))
   | exact ih0 _ _ _ _ _
   | exact ha_.mono _
   | exact va_.mono _ _ _ _ _ _
   | exact aa_.mono _ _ _
   | exact tb_.mono _ _ _
   | exact LeO.none _
   | refine LeO.ite ?_ ?_
   | refine LeO.bind ?_ (fun _ => ?_)
theorem pb_.mono : ∀ a0 k, LeO (pb_.f k a0) (pb_.f (k + 1) a0) := by
 intro a0 k
 have ih0 := pb_.xc_ k
 unfold pb_.f
 repeat' first
   | (with_reducible exact ih0 _ _ _ _ _)
   | (with_reducible exact ha_.mono _)
   | (with_reducible exact va_.mono _ _ _ _ _ _)
   | (with_reducible exact aa_.mono _ _ _)
   | (with_reducible exact tb_.mono _ _ _)
   | (with_reducible exact LeO.refl _)
   | (with_reducible exact LeO.none _)
   | (with_reducible refine LeO.ite ?_ ?_)
   | (with_reducible refine LeO.bind ?_ (fun _ => ?_))
   | exact ih0 _ _ _ _ _
   | exact ha_.mono _
   | exact va_.mono _ _ _ _ _ _
   | exact aa_.mono _ _ _
   | exact tb_.mono _ _ _
   | exact LeO.none _
   | refine LeO.ite ?_ ?_
   | refine LeO.bind ?_ (fun _ => ?_)
set_option maxHeartbeats 8000000 in
set_option maxRecDepth 100000 in
theorem pb_.calls (k : Nat) (A0 : Option Addr) (c0 : Nat) (l0 : List Int) (r : Bool) (w : World) (hr0 : Kd.C (Kd.int .i64) w A0 l0.length l0) (hc0 : l0.length ≤ c0) (h : pb_.f k l0 = some r) (hr_ : r = true) :
  Calls Try.prog 12 #[.slice A0 l0.length c0] w fun e w' => e = .returned (.bool r) ∧ Below w.heap.size w w' := by
 have HRT := ba_.mk hr_
 clear hr_
 have HR0 := ba_.mk hr0
 have HC0 := ba_.mk hc0
 clear hr0 hc0
 have HB := ba_.mk (Below.refl w.heap.size w)
 have H : ((sb_.f l0).bind fun bt371 => ((va_.f k bt371.1 bt371.2 8 0 31).bind fun bt374 => ((na_.f bt371.1 bt374.2 32).bind fun bt378 => (if bt374.1.length < 17592186044416 then ((some (bt374.1 ++ [bt378.1] : List Int)).bind fun y380 => ((some (([] : List Int) : List Int)).bind fun y383 => (if y383.length + y380.length < 17592186044416 then (pb_.l0 k y380 (y383 ++ y380) 0 bt371.1 bt378.2) else (none)))) else (none))))) = some r := h
 clear h
 replace H := Option.bind_eq_some_iff.mp H
 obtain ⟨⟨t371, t372⟩, A20, H⟩ := H
 replace H : ((va_.f k t371 t372 8 0 31).bind fun bt374 => ((na_.f t371 bt374.2 32).bind fun bt378 => (if bt374.1.length < 17592186044416 then ((some (bt374.1 ++ [bt378.1] : List Int)).bind fun y380 => ((some (([] : List Int) : List Int)).bind fun y383 => (if y383.length + y380.length < 17592186044416 then (pb_.l0 k y380 (y383 ++ y380) 0 t371 bt378.2) else (none)))) else (none)))) = some r := H
 have A2 := ba_.mk A20
 clear A20
 replace H := Option.bind_eq_some_iff.mp H
 obtain ⟨⟨t374, t377⟩, A30, H⟩ := H
 replace H : ((na_.f t371 t377 32).bind fun bt378 => (if t374.length < 17592186044416 then ((some (t374 ++ [bt378.1] : List Int)).bind fun y380 => ((some (([] : List Int) : List Int)).bind fun y383 => (if y383.length + y380.length < 17592186044416 then (pb_.l0 k y380 (y383 ++ y380) 0 t371 bt378.2) else (none)))) else (none))) = some r := H
 have A3 := ba_.mk A30
 clear A30
 replace H := Option.bind_eq_some_iff.mp H
 obtain ⟨⟨t378, t379⟩, A40, H⟩ := H
 replace H : (if t374.length < 17592186044416 then ((some (t374 ++ [t378] : List Int)).bind fun y380 => ((some (([] : List Int) : List Int)).bind fun y383 => (if y383.length + y380.length < 17592186044416 then (pb_.l0 k y380 (y383 ++ y380) 0 t371 t379) else (none)))) else (none)) = some r := H
 have A4 := ba_.mk A40
 clear A40
 by_cases c5 : t374.length < 17592186044416
 ·rw [if_pos c5] at H
  have LMc5 := ba_.mk c5
  clear c5
  obtain ⟨y380, hy380⟩ : ∃ y_ : List Int, y_ = (t374 ++ [t378]) := ⟨_, rfl⟩
  replace H : ((some (([] : List Int) : List Int)).bind fun y383 => (if y383.length + y380.length < 17592186044416 then (pb_.l0 k y380 (y383 ++ y380) 0 t371 t379) else (none))) = some r := by first | (rw [hy380]; with_reducible exact H) | (have H2_ := (Option.bind_some _ _).symm.trans H; rw [hy380]; with_reducible exact H2_) | (have H2_ := (Option.bind_some _ _).symm.trans H; with_reducible exact H2_) | with_reducible exact H | (rw [hy380]; exact H) | exact H
  have Ny380 := ba_.mk hy380
  clear hy380
  obtain ⟨y383, hy383⟩ : ∃ y_ : List Int, y_ = (([] : List Int)) := ⟨_, rfl⟩
  replace H : (if y383.length + y380.length < 17592186044416 then (pb_.l0 k y380 (y383 ++ y380) 0 t371 t379) else (none)) = some r := by first | (rw [hy383]; with_reducible exact H) | (have H2_ := (Option.bind_some _ _).symm.trans H; rw [hy383]; with_reducible exact H2_) | (have H2_ := (Option.bind_some _ _).symm.trans H; with_reducible exact H2_) | with_reducible exact H | (rw [hy383]; exact H) | exact H
  have Ny383 := ba_.mk hy383
  clear hy383
  by_cases c6 : y383.length + y380.length < 17592186044416
  ·rw [if_pos c6] at H
   have LMc6 := ba_.mk c6
   clear c6
   obtain ⟨y386, hy386⟩ : ∃ y_ : List Int, y_ = (y383 ++ y380) := ⟨_, rfl⟩
   replace H : (pb_.l0 k y380 y386 0 t371 t379) = some r := by first | (rw [hy386]; with_reducible exact H) | (have H2_ := (Option.bind_some _ _).symm.trans H; rw [hy386]; with_reducible exact H2_) | (have H2_ := (Option.bind_some _ _).symm.trans H; with_reducible exact H2_) | with_reducible exact H | (rw [hy386]; exact H) | exact H
   have Ny386 := ba_.mk hy386
   clear hy386
   have H' := ba_.mk H
   clear H
   go_enter Try.func12, Try.ntmps12
   go_wp2_with (first | ((with_reducible refine ua_ (f := 22) rfl ?_); refine hc_ (some 13) rfl rfl Try.func22 (by kernel_rfl) rfl #[.slice A0 l0.length c0] rfl (by (try simp only [List.map_toArray, List.map_cons, List.map_nil]); first | done | rfl | (simp only [List.length_drop, List.length_take]; rfl)) ?_; (with_reducible refine (sb_.calls _ _ l0 t371 t372 w _ ?side1 ?side2 ?side3 A2.out).mono ?_); (case side1 => repeat (first | (with_reducible first | exact HB.out | apply fa_ | apply ca_ | apply ga_) | exact HB.out)); (case side2 => exact HR0.out); (case side3 => exact HC0.out); rintro e w7 ⟨g373, rfl, hi, hb, hb2⟩; refine ⟨_, rfl, ?_⟩; have n0_ := ba_.mk (hb); have n1_ := ba_.mk (hi); clear HB; have HB := n0_; have HI373 := n1_; clear n0_ n1_; (try clear hb); (try clear hb2); (try clear hk); (try clear hi)) | ((with_reducible refine ua_ (f := 23) rfl ?_); refine hc_ (some 15) rfl rfl Try.func23 (by kernel_rfl) rfl #[.pointer (some ⟨g373, 0, none⟩), .int .i64 8, .int .i64 0, .int .i64 31] rfl (by (try simp only [List.map_toArray, List.map_cons, List.map_nil]); first | done | rfl | (simp only [List.length_drop, List.length_take]; rfl)) ?_; (with_reducible refine (va_.calls k g373 t371 t372 8 0 31 t374 t377 w _ ?side1 ?side2 A3.out).mono ?_); (case side1 => repeat (first | (with_reducible first | exact HI373.out | apply ia_.alloc | apply ia_.drewN | apply ia_.drew | apply ia_.ic_) | exact HI373.out)); (case side2 => repeat (first | (with_reducible first | exact HB.out | apply fa_ | apply ca_ | apply ga_ | refine qa_ ?_ (ia_.ge HI373.out)) | exact HB.out)); rintro e w8 ⟨v375, rfl, ho0, hi, hb, hk⟩; refine ⟨_, rfl, ?_⟩; have n0_ := ba_.mk (Kd.wc_ ho0 (eb_ (by repeat (first | (with_reducible first | exact HB.out | apply fa_ | apply ca_ | apply ga_ | refine qa_ ?_ (ia_.ge HI373.out)) | exact HB.out)))); have n1_ := ba_.mk (hb); have n2_ := ba_.mk (hi); clear HB; clear HI373; have HO376 := n0_; have HB := n1_; have HI373 := n2_; clear n0_ n1_ n2_; (try clear hb); (try clear hb2); (try clear hk); (try clear hi); (try clear ho0)) | ((with_reducible refine ua_ (f := 26) rfl ?_); refine hc_ (some 18) rfl rfl Try.func26 (by kernel_rfl) rfl #[.pointer (some ⟨g373, 0, none⟩), .int .i64 32] rfl (by (try simp only [List.map_toArray, List.map_cons, List.map_nil]); first | done | rfl | (simp only [List.length_drop, List.length_take]; rfl)) ?_; (with_reducible refine (na_.calls g373 t371 t377 32 t378 t379 w _ ?side1 ?side2 A4.out).mono ?_); (case side1 => repeat (first | (with_reducible first | exact HI373.out | apply ia_.alloc | apply ia_.drewN | apply ia_.drew | apply ia_.ic_) | exact HI373.out)); (case side2 => repeat (first | (with_reducible first | exact HB.out | apply fa_ | apply ca_ | apply ga_ | refine qa_ ?_ (ia_.ge HI373.out)) | exact HB.out)); rintro e w9 ⟨rfl, hi, hb, hk⟩; refine ⟨_, rfl, ?_⟩; have n0_ := ba_.mk (Kd.bc_ (Kd.ne_ (ia_.apart (show ia_ w _ g373 t371 t377 from by repeat (first | (with_reducible first | exact HI373.out | apply ia_.alloc | apply ia_.drewN | apply ia_.drew | apply ia_.ic_) | exact HI373.out)) (by (with_reducible repeat (first | apply Kd.la_ | apply Kd.ka_ | apply Kd.ma_)); exact HO376.out) (by decide)) hk (fun _ h => h.2)) (fun _ h => h.1)); have n1_ := ba_.mk (hb); have n2_ := ba_.mk (hi); clear HO376; clear HB; clear HI373; have HO376 := n0_; have HB := n1_; have HI373 := n2_; clear n0_ n1_ n2_; (try clear hb); (try clear hb2); (try clear hk); (try clear hi)) | ((with_reducible refine hd_ (b := .append) (xs := #[.tmp 16, .tmp 19]) rfl ?_); at_builtin; refine Kd.qe_ (Kd.int .i64) (w0 := w) w.heap.size rfl (.tmp 16) (.tmp 19) 27 3 (.int .i64 0) 8 rfl Try.underlying27 te_ rfl (by decide) (by omega) v375 t374 t378 [.int .i64 t378] (fun _ => True) (fun _ => False) rfl rfl ?aP (fun _ hk => hk.elim) ?aF ?aO ?aB ?aS ?aL ?_; (case aP => exact rfl); (case aB => exact (by repeat (first | (with_reducible first | exact HB.out | apply fa_ | apply ca_ | apply ga_ | refine qa_ ?_ (ia_.ge HI373.out)) | exact HB.out))); (case aF => exact (fun _ _ => trivial)); (case aO => exact (by (with_reducible repeat (first | apply Kd.la_ | apply Kd.ka_ | apply Kd.ma_)); exact HO376.out)); (case aS => exact (eb_ (by repeat (first | (with_reducible first | exact HB.out | apply fa_ | apply ca_ | apply ga_ | refine qa_ ?_ (ia_.ge HI373.out)) | exact HB.out)))); (case aL => have := LMc5.out; omega); intro v381 w10 ho hb hg hat; rw [← Ny380.out] at ho; have n0_ := ba_.mk (ia_.grown (by repeat (first | (with_reducible first | exact HI373.out | apply ia_.alloc | apply ia_.drewN | apply ia_.drew | apply ia_.ic_) | exact HI373.out)) hg (ia_.fe_ HI373.out HO376.out (by decide))); have n1_ := ba_.mk (hb); have n2_ := ba_.mk (ho); clear HI373; clear HB; clear HO376; have HI373 := n0_; have HB := n1_; have HO382 := n2_; clear n0_ n1_ n2_; clear ho hb hg hat) | ((with_reducible refine yd_ (N := 21) rfl ?_); refine Kd.ri_ (Kd.int .i64) _ 3 ?hg (N := 21) ?hd (xs := ([] : List Int)) (inner := []) (ok := fun _ => True) (okp := fun _ => True) ?hr ?hp (fun _ hk => hk) trivial (Below.refl _ _) (Nat.le_refl _) (by simp) ?_; (case hd => rfl); (case hg => rfl); (case hr => first | (go_simp; done) | (go_simp; rfl)); (case hp => exact (Reps.none _ _)); intro v384 w11 ho12 hb hg_ hnew_; clear hg_ hnew_; (first | rw [← Ny383.out] at ho12 | (simp only [Int.reduceToNat] at ho12; rw [← Ny383.out] at ho12)); have n0_ := ba_.mk (Kd.wb_ (by (with_reducible repeat (first | apply Kd.la_ | apply Kd.ka_ | apply Kd.ma_)); exact HO382.out) (Kd.rc_ ho12) hb); have n1_ := ba_.mk (Kd.wc_ (Kd.qc_ ho12 (Kd.R_lt (by (with_reducible repeat (first | apply Kd.la_ | apply Kd.ka_ | apply Kd.ma_)); exact HO382.out))) (eb_ (by repeat (first | (with_reducible first | exact HB.out | apply fa_ | apply ca_ | apply ga_ | refine qa_ ?_ (ia_.ge HI373.out)) | exact HB.out)))); have n2_ := ba_.mk (ia_.below (by repeat (first | (with_reducible first | exact HI373.out | apply ia_.alloc | apply ia_.drewN | apply ia_.drew | apply ia_.ic_) | exact HI373.out)) hb); have n3_ := ba_.mk (gb_ (by repeat (first | (with_reducible first | exact HB.out | apply fa_ | apply ca_ | apply ga_ | refine qa_ ?_ (ia_.ge HI373.out)) | exact HB.out)) hb); clear HO382; clear HI373; clear HB; have HO382 := n0_; have HO385 := n1_; have HI373 := n2_; have HB := n3_; clear n0_ n1_ n2_ n3_; clear hb ho12; obtain ⟨Ao14, co14, eo14⟩ := Kd.fc_ HO382.out; subst eo14) | ((with_reducible refine hd_ (b := .append) (xs := #[.tmp 21, .tmp 22]) rfl ?_); at_builtin; refine Kd.af_ (Kd.int .i64) (w0 := w) w.heap.size rfl (.tmp 21) (.tmp 22) 27 3 (.int .i64 0) 8 rfl Try.underlying27 te_ rfl (by decide) (by omega) v384 y383 y380 _ _ _ (fun k_ => some k_ ≠ (.slice Ao14 y380.length co14 : Value).ownBlock) (fun _ => False) rfl rfl ?aO ?aR (fun _ _ h => h) (fun _ h => h.elim) ?aF ?aB ?aS ?aL ?_; (case aR => repeat (first | exact (Kd.ta_ HO382.out).2.2 | (with_reducible refine Kd.yb_ ?_ _) | (with_reducible refine Kd.zb_ ?_ _) | (with_reducible refine Kd.jc_ ?_))); (case aB => exact (by repeat (first | (with_reducible first | exact HB.out | apply fa_ | apply ca_ | apply ga_ | refine qa_ ?_ (ia_.ge HI373.out)) | exact HB.out))); (case aF => exact (fun k_ hk => Kd.fresh' (Kd.R_lt (by (with_reducible repeat (first | apply Kd.la_ | apply Kd.ka_ | apply Kd.ma_)); exact HO382.out)) k_ hk)); (case aO => exact (by (with_reducible repeat (first | apply Kd.la_ | apply Kd.ka_ | apply Kd.ma_)); exact Kd.bc_ HO385.out (fun _ hk => hk.2))); (case aS => exact (eb_ (by repeat (first | (with_reducible first | exact HB.out | apply fa_ | apply ca_ | apply ga_ | refine qa_ ?_ (ia_.ge HI373.out)) | exact HB.out)))); (case aL => have := LMc6.out; omega); intro v387 w13 ho hb hg hat; rw [← Ny386.out] at ho; have n0_ := ba_.mk (ia_.grown (by repeat (first | (with_reducible first | exact HI373.out | apply ia_.alloc | apply ia_.drewN | apply ia_.drew | apply ia_.ic_) | exact HI373.out)) hg (ia_.fe_ HI373.out HO385.out (by decide))); have n1_ := ba_.mk (Kd.wd_ (ok := (fun _ => True)) (by (with_reducible repeat (first | apply Kd.la_ | apply Kd.ka_ | apply Kd.ma_)); exact HO382.out) hg hat); have n2_ := ba_.mk (hb); have n3_ := ba_.mk (ho); clear HI373; clear HO382; clear HB; clear HO385; have HI373 := n0_; have HO382 := n1_; have HB := n2_; have HO388 := n3_; clear n0_ n1_ n2_ n3_; clear ho hb hg hat))
   go_loopg [6] k (fun kq v6 w' => ∃ (x5_1 : List Int) (x6_1 : Int) (x374001_1 : Int), v6 = .int .i64 x6_1 ∧ ba_ (pb_.l0 kq y380 x5_1 x6_1 t371 x374001_1 = some r) ∧ ba_ (kq ≤ k) ∧ ba_ (Kd.R (Kd.int .i64) 3 w' w.heap.size (fun k_ => some k_ ≠ (v387 : Value).ownBlock) (.slice Ao14 y380.length co14) y380) ∧ ba_ (Kd.R (Kd.int .i64) 3 w' w.heap.size (fun k_ => some k_ ≠ ((.slice Ao14 y380.length co14) : Value).ownBlock) v387 x5_1) ∧ ba_ (ia_ w w' g373 t371 x374001_1) ∧ ba_ (Below w.heap.size w w'))
   case atStart => exact ⟨(y386), (0), (t379), (by first | rfl | (simp; done) | (simp [*]; done)), H', ⟨Nat.le_refl _⟩, ⟨by (with_reducible repeat (first | apply Kd.la_ | apply Kd.ka_ | apply Kd.ma_)); exact Kd.bc_ HO382.out (fun _ hk => hk.2)⟩, ⟨by (with_reducible repeat (first | apply Kd.la_ | apply Kd.ka_ | apply Kd.ma_)); exact HO388.out⟩, ⟨by repeat (first | (with_reducible first | exact HI373.out | apply ia_.alloc | apply ia_.drewN | apply ia_.drew | apply ia_.ic_) | exact HI373.out)⟩, ⟨by repeat (first | (with_reducible first | exact HB.out | apply fa_ | apply ca_ | apply ga_ | refine qa_ ?_ (ia_.ge HI373.out)) | exact HB.out)⟩⟩
   case round =>
    clear H'
    try clear c1
    try clear c2
    try clear p2
    try clear c5
    try clear c6
    try clear c12
    obtain ⟨x5_1, x6_1, x374001_1, rfl, HA, HK1, HO_4, HO_5, HI373, HB⟩ := hrel
    cases gk with
    | zero => exact absurd HA.out (by simp [pb_.l0])
    | succ k1 =>
     have H := HA.out
     clear HA
     simp only [pb_.l0] at H
     by_cases c15 : x6_1 < (x5_1.length : Int)
     ·rw [if_pos c15] at H
      have c15b0 : decide (x6_1 < (x5_1.length : Int)) = true := decide_eq_true c15
      clear c15
      replace H := Option.bind_eq_some_iff.mp H
      obtain ⟨⟨t389, t390⟩, A160, H⟩ := H
      replace H : (if t389 = true then ((na_.f t371 t390 32).bind fun bt391 => (if 0 ≤ x6_1 then (pb_.l0 k1 y380 (x5_1.set (x6_1 : Int).toNat bt391.1) (wrap64 (x6_1 + 1)) t371 bt391.2) else (none))) else (pb_.l0 k1 y380 x5_1 (wrap64 (x6_1 + 1)) t371 t390)) = some r := H
      have A16 := ba_.mk A160
      clear A160
      by_cases c17 : t389 = true
      ·subst c17
       have H1 : ((na_.f t371 t390 32).bind fun bt391 => (if 0 ≤ x6_1 then (pb_.l0 k1 y380 (x5_1.set (x6_1 : Int).toNat bt391.1) (wrap64 (x6_1 + 1)) t371 bt391.2) else (none))) = some r := by rw [if_pos rfl] at H; exact H
       clear H
       have H := H1
       clear H1
       replace H := Option.bind_eq_some_iff.mp H
       obtain ⟨⟨t391, t392⟩, A180, H⟩ := H
       replace H : (if 0 ≤ x6_1 then (pb_.l0 k1 y380 (x5_1.set (x6_1 : Int).toNat t391) (wrap64 (x6_1 + 1)) t371 t392) else (none)) = some r := H
       have A18 := ba_.mk A180
       clear A180
       by_cases c19 : 0 ≤ x6_1
       ·rw [if_pos c19] at H
        have c19b0 : decide (0 ≤ x6_1) = true := decide_eq_true c19
        clear c19
        obtain ⟨y393, hy393⟩ : ∃ y_ : List Int, y_ = (x5_1.set (x6_1 : Int).toNat t391) := ⟨_, rfl⟩
        replace H : (pb_.l0 k1 y380 y393 (wrap64 (x6_1 + 1)) t371 t392) = some r := by first | (rw [hy393]; with_reducible exact H) | (have H2_ := (Option.bind_some _ _).symm.trans H; rw [hy393]; with_reducible exact H2_) | (have H2_ := (Option.bind_some _ _).symm.trans H; with_reducible exact H2_) | with_reducible exact H | (rw [hy393]; exact H) | exact H
        have Ny393 := ba_.mk hy393
        clear hy393
        have H' := ba_.mk H
        clear H
        obtain ⟨Ao21, co21, eo21⟩ := Kd.fc_ HO_5.out
        subst eo21
        go_wp2_with (first | ((with_reducible refine ua_ (f := 24) rfl ?_); refine hc_ (some 31) rfl rfl Try.func24 (by kernel_rfl) rfl #[.pointer (some ⟨g373, 0, none⟩), .int .i64 3] rfl (by (try simp only [List.map_toArray, List.map_cons, List.map_nil]); first | done | rfl | (simp only [List.length_drop, List.length_take]; rfl)) ?_; (with_reducible refine (xb_.calls g373 t371 x374001_1 3 true t390 w _ ?side1 ?side2 A16.out).mono ?_); (case side1 => repeat (first | (with_reducible first | exact HI373.out | apply ia_.alloc | apply ia_.drewN | apply ia_.drew | apply ia_.ic_) | exact HI373.out)); (case side2 => repeat (first | (with_reducible first | exact HB.out | apply fa_ | apply ca_ | apply ga_ | refine qa_ ?_ (ia_.ge HI373.out)) | exact HB.out)); rintro e w22 ⟨rfl, hi, hb, hk⟩; refine ⟨_, rfl, ?_⟩; have n0_ := ba_.mk (Kd.bc_ (Kd.ne_ (ia_.apart (show ia_ w _ g373 t371 x374001_1 from by repeat (first | (with_reducible first | exact HI373.out | apply ia_.alloc | apply ia_.drewN | apply ia_.drew | apply ia_.ic_) | exact HI373.out)) (by (with_reducible repeat (first | apply Kd.la_ | apply Kd.ka_ | apply Kd.ma_)); exact HO_4.out) (by decide)) hk (fun _ h => h.2)) (fun _ h => h.1)); have n1_ := ba_.mk (Kd.bc_ (Kd.ne_ (ia_.apart (show ia_ w _ g373 t371 x374001_1 from by repeat (first | (with_reducible first | exact HI373.out | apply ia_.alloc | apply ia_.drewN | apply ia_.drew | apply ia_.ic_) | exact HI373.out)) (by (with_reducible repeat (first | apply Kd.la_ | apply Kd.ka_ | apply Kd.ma_)); exact HO_5.out) (by decide)) hk (fun _ h => h.2)) (fun _ h => h.1)); have n2_ := ba_.mk (hb); have n3_ := ba_.mk (hi); clear HO_4; clear HO_5; clear HB; clear HI373; have HO_4 := n0_; have HO_5 := n1_; have HB := n2_; have HI373 := n3_; clear n0_ n1_ n2_ n3_; (try clear hb); (try clear hb2); (try clear hk); (try clear hi)) | ((with_reducible refine ua_ (f := 26) rfl ?_); refine hc_ (some 35) rfl rfl Try.func26 (by kernel_rfl) rfl #[.pointer (some ⟨g373, 0, none⟩), .int .i64 32] rfl (by (try simp only [List.map_toArray, List.map_cons, List.map_nil]); first | done | rfl | (simp only [List.length_drop, List.length_take]; rfl)) ?_; (with_reducible refine (na_.calls g373 t371 t390 32 t391 t392 w _ ?side1 ?side2 A18.out).mono ?_); (case side1 => repeat (first | (with_reducible first | exact HI373.out | apply ia_.alloc | apply ia_.drewN | apply ia_.drew | apply ia_.ic_) | exact HI373.out)); (case side2 => repeat (first | (with_reducible first | exact HB.out | apply fa_ | apply ca_ | apply ga_ | refine qa_ ?_ (ia_.ge HI373.out)) | exact HB.out)); rintro e w23 ⟨rfl, hi, hb, hk⟩; refine ⟨_, rfl, ?_⟩; have n0_ := ba_.mk (Kd.bc_ (Kd.ne_ (ia_.apart (show ia_ w _ g373 t371 t390 from by repeat (first | (with_reducible first | exact HI373.out | apply ia_.alloc | apply ia_.drewN | apply ia_.drew | apply ia_.ic_) | exact HI373.out)) (by (with_reducible repeat (first | apply Kd.la_ | apply Kd.ka_ | apply Kd.ma_)); exact HO_4.out) (by decide)) hk (fun _ h => h.2)) (fun _ h => h.1)); have n1_ := ba_.mk (Kd.bc_ (Kd.ne_ (ia_.apart (show ia_ w _ g373 t371 t390 from by repeat (first | (with_reducible first | exact HI373.out | apply ia_.alloc | apply ia_.drewN | apply ia_.drew | apply ia_.ic_) | exact HI373.out)) (by (with_reducible repeat (first | apply Kd.la_ | apply Kd.ka_ | apply Kd.ma_)); exact HO_5.out) (by decide)) hk (fun _ h => h.2)) (fun _ h => h.1)); have n2_ := ba_.mk (hb); have n3_ := ba_.mk (hi); clear HO_4; clear HO_5; clear HB; clear HI373; have HO_4 := n0_; have HO_5 := n1_; have HB := n2_; have HI373 := n3_; clear n0_ n1_ n2_ n3_; (try clear hb); (try clear hb2); (try clear hk); (try clear hi); have p20 : 0 ≤ (x6_1 : Int) := of_decide_eq_true (by first | (with_reducible assumption) | assumption); have q20 : (x6_1 : Int) < ((x5_1.length : Int) : Int) := of_decide_eq_true (by first | (with_reducible assumption) | assumption); obtain ⟨go20, co20, eo20, gb20, gl20, cl20, HG20⟩ := Kd.yg_ HO_5.out (by omega); (first | cases eo20 | (injection eo20 with ea_ en_ ec_; (first | subst ea_ | (injection ea_ with ea_; subst ea_)); subst ec_; clear en_)); have GB20 := ba_.mk gb20; have GG20 := ba_.mk HG20; clear gb20 gl20 HG20; obtain ⟨hx20_0, hf20_0⟩ := Kd.of_ 0 HO_5.out (x6_1 : Int) p20 q20; replace p20 := eq_true p20; replace q20 := eq_true q20; obtain ⟨hy24_, hz24_⟩ := Kd.of_ 0 HO_5.out (x6_1 : Int) (of_decide_eq_true (by first | (with_reducible assumption) | assumption)) (of_decide_eq_true (by first | (with_reducible assumption) | assumption)); have HP24 := Kd.am_ HO_5.out (x6_1 : Int) t391) | ((with_reducible refine ch_ (t := 3) (p := 36) rfl ?_); refine mg_ (t := 3) (p := 36) (v := ?vo_w25) (w1 := (w23.setCell ⟨go20, (x6_1 : Int).toNat, none⟩ (.int .i64 t391))) ?hg ?ho ?hn ?hr ?_; (case ho => rfl); (case hg => rfl); (case hn => rfl); (case hr => first | (go_simp; done) | (go_simp; rfl)); intro w25 hw; have hg : w23.grownBy w25 (some go20) := (by rw [hw]; exact HP24.2); have hp_ : Kd.R (Kd.int .i64) 3 w25 w.heap.size (fun k_ => some k_ ≠ (.slice Ao14 y380.length co14 : Value).ownBlock) (.slice (some ⟨go20, 0, none⟩) x5_1.length co21) y393 := (by rw [hw, Ny393.out]; exact HP24.1); clear HP24; have n0_ := ba_.mk (Kd.wd_ (v := (.slice (some ⟨go20, 0, none⟩) x5_1.length co21)) (v1 := (.slice (some ⟨go20, 0, none⟩) x5_1.length co21)) (ok := (fun _ => True)) (by (with_reducible repeat (first | apply Kd.la_ | apply Kd.ka_ | apply Kd.ma_)); exact Kd.bc_ HO_4.out (fun _ hk => ⟨trivial, hk⟩)) hg (.inl rfl)); have n1_ := ba_.mk (hp_); have n2_ := ba_.mk (ia_.grown (by repeat (first | (with_reducible first | exact HI373.out | apply ia_.alloc | apply ia_.drewN | apply ia_.drew | apply ia_.ic_) | exact HI373.out)) hg (ia_.fe_ HI373.out HO_5.out (by decide))); have n3_ := ba_.mk ((by rw [hw]; exact qa_ (HB.out) GB20.out : Below w.heap.size w w25)); clear HO_4; clear HO_5; clear HI373; clear HB; have HO_4 := n0_; have HO_5 := n1_; have HI373 := n2_; have HB := n3_; clear n0_ n1_ n2_ n3_; clear hg hw hp_))
        go_roundg k1
        case measure => have := HK1.out; omega
        case rel => exact ⟨(y393), (wrap64 (x6_1 + 1)), (t392), (by first | rfl | (simp; done) | (simp [*]; done)), H', ⟨by have := HK1.out; omega⟩, ⟨by (with_reducible repeat (first | apply Kd.la_ | apply Kd.ka_ | apply Kd.ma_)); exact Kd.bc_ HO_4.out (fun _ hk => hk.2)⟩, ⟨by (with_reducible repeat (first | apply Kd.la_ | apply Kd.ka_ | apply Kd.ma_)); exact HO_5.out⟩, ⟨by repeat (first | (with_reducible first | exact HI373.out | apply ia_.alloc | apply ia_.drewN | apply ia_.drew | apply ia_.ic_) | exact HI373.out)⟩, ⟨by repeat (first | (with_reducible first | exact HB.out | apply fa_ | apply ca_ | apply ga_ | refine qa_ ?_ (ia_.ge HI373.out)) | exact HB.out)⟩⟩
       ·rw [if_neg c19] at H
        exact absurd H (by simp)
      ·replace c17 := Bool.eq_false_iff.mpr c17
       subst c17
       have H1 : (pb_.l0 k1 y380 x5_1 (wrap64 (x6_1 + 1)) t371 t390) = some r := by rw [if_neg (show ¬ (false = true) by decide)] at H; exact H
       clear H
       have H := H1
       clear H1
       have H' := ba_.mk H
       clear H
       obtain ⟨Ao26, co26, eo26⟩ := Kd.fc_ HO_5.out
       subst eo26
       go_wp2_with (first | ((with_reducible refine ua_ (f := 24) rfl ?_); refine hc_ (some 31) rfl rfl Try.func24 (by kernel_rfl) rfl #[.pointer (some ⟨g373, 0, none⟩), .int .i64 3] rfl (by (try simp only [List.map_toArray, List.map_cons, List.map_nil]); first | done | rfl | (simp only [List.length_drop, List.length_take]; rfl)) ?_; (with_reducible refine (xb_.calls g373 t371 x374001_1 3 false t390 w _ ?side1 ?side2 A16.out).mono ?_); (case side1 => repeat (first | (with_reducible first | exact HI373.out | apply ia_.alloc | apply ia_.drewN | apply ia_.drew | apply ia_.ic_) | exact HI373.out)); (case side2 => repeat (first | (with_reducible first | exact HB.out | apply fa_ | apply ca_ | apply ga_ | refine qa_ ?_ (ia_.ge HI373.out)) | exact HB.out)); rintro e w27 ⟨rfl, hi, hb, hk⟩; refine ⟨_, rfl, ?_⟩; have n0_ := ba_.mk (Kd.bc_ (Kd.ne_ (ia_.apart (show ia_ w _ g373 t371 x374001_1 from by repeat (first | (with_reducible first | exact HI373.out | apply ia_.alloc | apply ia_.drewN | apply ia_.drew | apply ia_.ic_) | exact HI373.out)) (by (with_reducible repeat (first | apply Kd.la_ | apply Kd.ka_ | apply Kd.ma_)); exact HO_4.out) (by decide)) hk (fun _ h => h.2)) (fun _ h => h.1)); have n1_ := ba_.mk (Kd.bc_ (Kd.ne_ (ia_.apart (show ia_ w _ g373 t371 x374001_1 from by repeat (first | (with_reducible first | exact HI373.out | apply ia_.alloc | apply ia_.drewN | apply ia_.drew | apply ia_.ic_) | exact HI373.out)) (by (with_reducible repeat (first | apply Kd.la_ | apply Kd.ka_ | apply Kd.ma_)); exact HO_5.out) (by decide)) hk (fun _ h => h.2)) (fun _ h => h.1)); have n2_ := ba_.mk (hb); have n3_ := ba_.mk (hi); clear HO_4; clear HO_5; clear HB; clear HI373; have HO_4 := n0_; have HO_5 := n1_; have HB := n2_; have HI373 := n3_; clear n0_ n1_ n2_ n3_; (try clear hb); (try clear hb2); (try clear hk); (try clear hi)))
       go_roundg k1
       case measure => have := HK1.out; omega
       case rel => exact ⟨(x5_1), (wrap64 (x6_1 + 1)), (t390), (by first | rfl | (simp; done) | (simp [*]; done)), H', ⟨by have := HK1.out; omega⟩, ⟨by (with_reducible repeat (first | apply Kd.la_ | apply Kd.ka_ | apply Kd.ma_)); exact HO_4.out⟩, ⟨by (with_reducible repeat (first | apply Kd.la_ | apply Kd.ka_ | apply Kd.ma_)); exact HO_5.out⟩, ⟨by repeat (first | (with_reducible first | exact HI373.out | apply ia_.alloc | apply ia_.drewN | apply ia_.drew | apply ia_.ic_) | exact HI373.out)⟩, ⟨by repeat (first | (with_reducible first | exact HB.out | apply fa_ | apply ca_ | apply ga_ | refine qa_ ?_ (ia_.ge HI373.out)) | exact HB.out)⟩⟩
     ·rw [if_neg c15] at H
      have c15b0 : decide (x6_1 < (x5_1.length : Int)) = false := decide_eq_false c15
      clear c15
      replace H := Option.bind_eq_some_iff.mp H
      obtain ⟨⟨t394, t395⟩, A280, H⟩ := H
      replace H : ((ge_.f x5_1).bind fun bt398 => ((tb_.f k1 t394 bt398.1).bind fun t402 => ((aa_.f k1 y380 x5_1).bind fun t403 => (if t403 = true then (if t395 = 0 then (if bt398.2 = 0 then (if t402 = 0 then ((ha_.f k1).bind fun t404 => (some t404)) else (some false)) else (some false)) else (some false)) else (if t395 = 0 then (if bt398.2 = 0 then (if t402 ≥ 7 then ((ha_.f k1).bind fun t405 => (some t405)) else (some false)) else (some false)) else (some false)))))) = some r := H
      have A28 := ba_.mk A280
      clear A280
      replace H := Option.bind_eq_some_iff.mp H
      obtain ⟨⟨t398, t399⟩, A290, H⟩ := H
      replace H : ((tb_.f k1 t394 t398).bind fun t402 => ((aa_.f k1 y380 x5_1).bind fun t403 => (if t403 = true then (if t395 = 0 then (if t399 = 0 then (if t402 = 0 then ((ha_.f k1).bind fun t404 => (some t404)) else (some false)) else (some false)) else (some false)) else (if t395 = 0 then (if t399 = 0 then (if t402 ≥ 7 then ((ha_.f k1).bind fun t405 => (some t405)) else (some false)) else (some false)) else (some false))))) = some r := H
      have A29 := ba_.mk A290
      clear A290
      replace H := Option.bind_eq_some_iff.mp H
      obtain ⟨t402, A300, H⟩ := H
      replace H : ((aa_.f k1 y380 x5_1).bind fun t403 => (if t403 = true then (if t395 = 0 then (if t399 = 0 then (if t402 = 0 then ((ha_.f k1).bind fun t404 => (some t404)) else (some false)) else (some false)) else (some false)) else (if t395 = 0 then (if t399 = 0 then (if t402 ≥ 7 then ((ha_.f k1).bind fun t405 => (some t405)) else (some false)) else (some false)) else (some false)))) = some r := H
      have A30 := ba_.mk A300
      clear A300
      replace H := Option.bind_eq_some_iff.mp H
      obtain ⟨t403, A310, H⟩ := H
      replace H : (if t403 = true then (if t395 = 0 then (if t399 = 0 then (if t402 = 0 then ((ha_.f k1).bind fun t404 => (some t404)) else (some false)) else (some false)) else (some false)) else (if t395 = 0 then (if t399 = 0 then (if t402 ≥ 7 then ((ha_.f k1).bind fun t405 => (some t405)) else (some false)) else (some false)) else (some false))) = some r := H
      have A31 := ba_.mk A310
      clear A310
      by_cases c32 : t403 = true
      ·subst c32
       have H1 : (if t395 = 0 then (if t399 = 0 then (if t402 = 0 then ((ha_.f k1).bind fun t404 => (some t404)) else (some false)) else (some false)) else (some false)) = some r := by rw [if_pos rfl] at H; exact H
       clear H
       have H := H1
       clear H1
       by_cases c33 : t395 = 0
       ·rw [if_pos c33] at H
        have c33b0 : (t395 == 0) = true := beq_iff_eq.mpr c33
        have c33b1 : (t395 != 0) = false := bne_eq_false_iff_eq.mpr c33
        clear c33
        by_cases c34 : t399 = 0
        ·rw [if_pos c34] at H
         have c34b0 : (t399 == 0) = true := beq_iff_eq.mpr c34
         have c34b1 : (t399 != 0) = false := bne_eq_false_iff_eq.mpr c34
         clear c34
         by_cases c35 : t402 = 0
         ·rw [if_pos c35] at H
          have c35b0 : (t402 == 0) = true := beq_iff_eq.mpr c35
          have c35b1 : (t402 != 0) = false := bne_eq_false_iff_eq.mpr c35
          clear c35
          replace H := Option.bind_eq_some_iff.mp H
          obtain ⟨t404, A360, H⟩ := H
          replace H : (some t404) = some r := H
          have A36 := ba_.mk A360
          clear A360
          obtain rfl := Option.some.inj H
          obtain ⟨Ao37, co37, eo37⟩ := Kd.fc_ HO_5.out
          subst eo37
          go_wp2_with (first | ((with_reducible refine ua_ (f := 27) rfl ?_); refine hc_ (some 39) rfl rfl Try.func27 (by kernel_rfl) rfl #[.slice Ao14 y380.length co14] rfl (by (try simp only [List.map_toArray, List.map_cons, List.map_nil]); first | done | rfl | (simp only [List.length_drop, List.length_take]; rfl)) ?_; (with_reducible refine (ge_.calls _ _ y380 t394 t395 _ ?side1 ?side2 A28.out).mono ?_); (case side1 => repeat (first | exact (Kd.ta_ HO_4.out).2.2 | (with_reducible refine Kd.yb_ ?_ _) | (with_reducible refine Kd.zb_ ?_ _) | (with_reducible refine Kd.jc_ ?_))); (case side2 => exact (Kd.ta_ HO_4.out).2.1); rintro e w38 ⟨v396, rfl, ho0, hb⟩; refine ⟨_, rfl, ?_⟩; have n0_ := ba_.mk (Kd.wb_ (by (with_reducible repeat (first | apply Kd.la_ | apply Kd.ka_ | apply Kd.ma_)); exact HO_4.out) (Kd.rc_ ho0) hb); have n1_ := ba_.mk (Kd.wb_ (by (with_reducible repeat (first | apply Kd.la_ | apply Kd.ka_ | apply Kd.ma_)); exact HO_5.out) (Kd.rc_ ho0) hb); have n2_ := ba_.mk (Kd.wc_ (Kd.qc_ (Kd.qc_ ho0 (Kd.R_lt (by (with_reducible repeat (first | apply Kd.la_ | apply Kd.ka_ | apply Kd.ma_)); exact HO_4.out))) (Kd.R_lt (by (with_reducible repeat (first | apply Kd.la_ | apply Kd.ka_ | apply Kd.ma_)); exact HO_5.out))) (eb_ (by repeat (first | (with_reducible first | exact HB.out | apply fa_ | apply ca_ | apply ga_ | refine qa_ ?_ (ia_.ge HI373.out)) | exact HB.out)))); have n3_ := ba_.mk (ia_.below (by repeat (first | (with_reducible first | exact HI373.out | apply ia_.alloc | apply ia_.drewN | apply ia_.drew | apply ia_.ic_) | exact HI373.out)) hb); have n4_ := ba_.mk (gb_ (by repeat (first | (with_reducible first | exact HB.out | apply fa_ | apply ca_ | apply ga_ | refine qa_ ?_ (ia_.ge HI373.out)) | exact HB.out)) hb); clear HO_4; clear HO_5; clear HI373; clear HB; have HO_4 := n0_; have HO_5 := n1_; have HO397 := n2_; have HI373 := n3_; have HB := n4_; clear n0_ n1_ n2_ n3_ n4_; (try clear hb); (try clear hb2); (try clear hk); (try clear hi); (try clear ho0)) | ((with_reducible refine ua_ (f := 27) rfl ?_); refine hc_ (some 44) rfl rfl Try.func27 (by kernel_rfl) rfl #[.slice Ao37 x5_1.length co37] rfl (by (try simp only [List.map_toArray, List.map_cons, List.map_nil]); first | done | rfl | (simp only [List.length_drop, List.length_take]; rfl)) ?_; (with_reducible refine (ge_.calls _ _ x5_1 t398 t399 _ ?side1 ?side2 A29.out).mono ?_); (case side1 => repeat (first | exact (Kd.ta_ HO_5.out).2.2 | (with_reducible refine Kd.yb_ ?_ _) | (with_reducible refine Kd.zb_ ?_ _) | (with_reducible refine Kd.jc_ ?_))); (case side2 => exact (Kd.ta_ HO_5.out).2.1); rintro e w39 ⟨v400, rfl, ho0, hb⟩; refine ⟨_, rfl, ?_⟩; have n0_ := ba_.mk (Kd.wb_ (by (with_reducible repeat (first | apply Kd.la_ | apply Kd.ka_ | apply Kd.ma_)); exact HO_4.out) (Kd.rc_ ho0) hb); have n1_ := ba_.mk (Kd.wb_ (by (with_reducible repeat (first | apply Kd.la_ | apply Kd.ka_ | apply Kd.ma_)); exact HO_5.out) (Kd.rc_ ho0) hb); have n2_ := ba_.mk (Kd.wb_ (by (with_reducible repeat (first | apply Kd.la_ | apply Kd.ka_ | apply Kd.ma_)); exact HO397.out) (Kd.rc_ ho0) hb); have n3_ := ba_.mk (Kd.wc_ (Kd.qc_ (Kd.qc_ (Kd.qc_ ho0 (Kd.R_lt (by (with_reducible repeat (first | apply Kd.la_ | apply Kd.ka_ | apply Kd.ma_)); exact HO_4.out))) (Kd.R_lt (by (with_reducible repeat (first | apply Kd.la_ | apply Kd.ka_ | apply Kd.ma_)); exact HO_5.out))) (Kd.R_lt (by (with_reducible repeat (first | apply Kd.la_ | apply Kd.ka_ | apply Kd.ma_)); exact HO397.out))) (eb_ (by repeat (first | (with_reducible first | exact HB.out | apply fa_ | apply ca_ | apply ga_ | refine qa_ ?_ (ia_.ge HI373.out)) | exact HB.out)))); have n4_ := ba_.mk (ia_.below (by repeat (first | (with_reducible first | exact HI373.out | apply ia_.alloc | apply ia_.drewN | apply ia_.drew | apply ia_.ic_) | exact HI373.out)) hb); have n5_ := ba_.mk (gb_ (by repeat (first | (with_reducible first | exact HB.out | apply fa_ | apply ca_ | apply ga_ | refine qa_ ?_ (ia_.ge HI373.out)) | exact HB.out)) hb); clear HO_4; clear HO_5; clear HO397; clear HI373; clear HB; have HO_4 := n0_; have HO_5 := n1_; have HO397 := n2_; have HO401 := n3_; have HI373 := n4_; have HB := n5_; clear n0_ n1_ n2_ n3_ n4_ n5_; (try clear hb); (try clear hb2); (try clear hk); (try clear hi); (try clear ho0); obtain ⟨Ao40, co40, eo40⟩ := Kd.fc_ HO397.out; subst eo40; obtain ⟨Ao41, co41, eo41⟩ := Kd.fc_ HO401.out; subst eo41) | ((with_reducible refine ua_ (f := 36) rfl ?_); refine hc_ (some 49) rfl rfl Try.func36 (by kernel_rfl) rfl #[.slice Ao40 t394.length co40, .slice Ao41 t398.length co41] rfl (by (try simp only [List.map_toArray, List.map_cons, List.map_nil]); first | done | rfl | (simp only [List.length_drop, List.length_take]; rfl)) ?_; (with_reducible refine (tb_.calls k1 _ _ t394 _ _ t398 t402 _ ?side1 ?side2 ?side3 ?side4 A30.out).mono ?_); (case side1 => repeat (first | exact (Kd.ta_ HO397.out).2.2 | (with_reducible refine Kd.yb_ ?_ _) | (with_reducible refine Kd.zb_ ?_ _) | (with_reducible refine Kd.jc_ ?_))); (case side2 => exact (Kd.ta_ HO397.out).2.1); (case side3 => repeat (first | exact (Kd.ta_ HO401.out).2.2 | (with_reducible refine Kd.yb_ ?_ _) | (with_reducible refine Kd.zb_ ?_ _) | (with_reducible refine Kd.jc_ ?_))); (case side4 => exact (Kd.ta_ HO401.out).2.1); rintro e w' ⟨rfl, ⟨nd, rfl⟩⟩; refine ⟨_, rfl, ?_⟩) | ((with_reducible refine ua_ (f := 29) rfl ?_); refine hc_ (some 52) rfl rfl Try.func29 (by kernel_rfl) rfl #[.slice Ao14 y380.length co14, .slice Ao37 x5_1.length co37] rfl (by (try simp only [List.map_toArray, List.map_cons, List.map_nil]); first | done | rfl | (simp only [List.length_drop, List.length_take]; rfl)) ?_; (with_reducible refine (aa_.calls k1 _ _ y380 _ _ x5_1 true _ ?side1 ?side2 ?side3 ?side4 A31.out).mono ?_); (case side1 => repeat (first | exact (Kd.ta_ HO_4.out).2.2 | (with_reducible refine Kd.yb_ ?_ _) | (with_reducible refine Kd.zb_ ?_ _) | (with_reducible refine Kd.jc_ ?_))); (case side2 => exact (Kd.ta_ HO_4.out).2.1); (case side3 => repeat (first | exact (Kd.ta_ HO_5.out).2.2 | (with_reducible refine Kd.yb_ ?_ _) | (with_reducible refine Kd.zb_ ?_ _) | (with_reducible refine Kd.jc_ ?_))); (case side4 => exact (Kd.ta_ HO_5.out).2.1); rintro e w' ⟨rfl, ⟨nd, rfl⟩⟩; refine ⟨_, rfl, ?_⟩) | (go_at_call 19; (with_reducible refine (ha_.calls k1  t404 _ A36.out HRT.out).mono ?_); rintro e w42 ⟨rfl, hb⟩; have n0_ := ba_.mk (Kd.cd_ (by (with_reducible repeat (first | apply Kd.la_ | apply Kd.ka_ | apply Kd.ma_)); exact HO_4.out) hb); have n1_ := ba_.mk (Kd.cd_ (by (with_reducible repeat (first | apply Kd.la_ | apply Kd.ka_ | apply Kd.ma_)); exact HO_5.out) hb); have n2_ := ba_.mk (Kd.cd_ (by (with_reducible repeat (first | apply Kd.la_ | apply Kd.ka_ | apply Kd.ma_)); exact HO397.out) hb); have n3_ := ba_.mk (Kd.cd_ (by (with_reducible repeat (first | apply Kd.la_ | apply Kd.ka_ | apply Kd.ma_)); exact HO401.out) hb); have n4_ := ba_.mk (ia_.below (by repeat (first | (with_reducible first | exact HI373.out | apply ia_.alloc | apply ia_.drewN | apply ia_.drew | apply ia_.ic_) | exact HI373.out)) hb); have n5_ := ba_.mk (gb_ (by repeat (first | (with_reducible first | exact HB.out | apply fa_ | apply ca_ | apply ga_ | refine qa_ ?_ (ia_.ge HI373.out)) | exact HB.out)) hb); clear HO_4; clear HO_5; clear HO397; clear HO401; clear HI373; clear HB; have HO_4 := n0_; have HO_5 := n1_; have HO397 := n2_; have HO401 := n3_; have HI373 := n4_; have HB := n5_; clear n0_ n1_ n2_ n3_ n4_ n5_; (try clear hb); (try clear hb2); (try clear hk); (try clear hi)))
          go_ret
          exact ⟨by first | rfl | (simp [bb_, cb_] <;> rfl) | (simp [*, bb_, cb_] <;> rfl), by repeat (first | (with_reducible first | exact HB.out | apply fa_ | apply ca_ | apply ga_ | refine qa_ ?_ (ia_.ge HI373.out)) | exact HB.out)⟩
         ·rw [if_neg c35] at H
          have c35b0 : (t402 == 0) = false := beq_eq_false_iff_ne.mpr c35
          have c35b1 : (t402 != 0) = true := bne_iff_ne.mpr c35
          exact absurd ((Option.some.inj H).trans HRT.out) (by decide)
        ·rw [if_neg c34] at H
         have c34b0 : (t399 == 0) = false := beq_eq_false_iff_ne.mpr c34
         have c34b1 : (t399 != 0) = true := bne_iff_ne.mpr c34
         exact absurd ((Option.some.inj H).trans HRT.out) (by decide)
       ·rw [if_neg c33] at H
        have c33b0 : (t395 == 0) = false := beq_eq_false_iff_ne.mpr c33
        have c33b1 : (t395 != 0) = true := bne_iff_ne.mpr c33
        exact absurd ((Option.some.inj H).trans HRT.out) (by decide)
      ·replace c32 := Bool.eq_false_iff.mpr c32
       subst c32
       have H1 : (if t395 = 0 then (if t399 = 0 then (if t402 ≥ 7 then ((ha_.f k1).bind fun t405 => (some t405)) else (some false)) else (some false)) else (some false)) = some r := by rw [if_neg (show ¬ (false = true) by decide)] at H; exact H
       clear H
       have H := H1
       clear H1
       by_cases c58 : t395 = 0
       ·rw [if_pos c58] at H
        have c58b0 : (t395 == 0) = true := beq_iff_eq.mpr c58
        have c58b1 : (t395 != 0) = false := bne_eq_false_iff_eq.mpr c58
        clear c58
        by_cases c59 : t399 = 0
        ·rw [if_pos c59] at H
         have c59b0 : (t399 == 0) = true := beq_iff_eq.mpr c59
         have c59b1 : (t399 != 0) = false := bne_eq_false_iff_eq.mpr c59
         clear c59
         by_cases c60 : t402 ≥ 7
         ·rw [if_pos c60] at H
          have c60b0 : decide (7 ≤ t402) = true := decide_eq_true c60
          clear c60
          replace H := Option.bind_eq_some_iff.mp H
          obtain ⟨t405, A610, H⟩ := H
          replace H : (some t405) = some r := H
          have A61 := ba_.mk A610
          clear A610
          obtain rfl := Option.some.inj H
          obtain ⟨Ao62, co62, eo62⟩ := Kd.fc_ HO_5.out
          subst eo62
          go_wp2_with (first | ((with_reducible refine ua_ (f := 27) rfl ?_); refine hc_ (some 39) rfl rfl Try.func27 (by kernel_rfl) rfl #[.slice Ao14 y380.length co14] rfl (by (try simp only [List.map_toArray, List.map_cons, List.map_nil]); first | done | rfl | (simp only [List.length_drop, List.length_take]; rfl)) ?_; (with_reducible refine (ge_.calls _ _ y380 t394 t395 _ ?side1 ?side2 A28.out).mono ?_); (case side1 => repeat (first | exact (Kd.ta_ HO_4.out).2.2 | (with_reducible refine Kd.yb_ ?_ _) | (with_reducible refine Kd.zb_ ?_ _) | (with_reducible refine Kd.jc_ ?_))); (case side2 => exact (Kd.ta_ HO_4.out).2.1); rintro e w63 ⟨v396, rfl, ho0, hb⟩; refine ⟨_, rfl, ?_⟩; have n0_ := ba_.mk (Kd.wb_ (by (with_reducible repeat (first | apply Kd.la_ | apply Kd.ka_ | apply Kd.ma_)); exact HO_4.out) (Kd.rc_ ho0) hb); have n1_ := ba_.mk (Kd.wb_ (by (with_reducible repeat (first | apply Kd.la_ | apply Kd.ka_ | apply Kd.ma_)); exact HO_5.out) (Kd.rc_ ho0) hb); have n2_ := ba_.mk (Kd.wc_ (Kd.qc_ (Kd.qc_ ho0 (Kd.R_lt (by (with_reducible repeat (first | apply Kd.la_ | apply Kd.ka_ | apply Kd.ma_)); exact HO_4.out))) (Kd.R_lt (by (with_reducible repeat (first | apply Kd.la_ | apply Kd.ka_ | apply Kd.ma_)); exact HO_5.out))) (eb_ (by repeat (first | (with_reducible first | exact HB.out | apply fa_ | apply ca_ | apply ga_ | refine qa_ ?_ (ia_.ge HI373.out)) | exact HB.out)))); have n3_ := ba_.mk (ia_.below (by repeat (first | (with_reducible first | exact HI373.out | apply ia_.alloc | apply ia_.drewN | apply ia_.drew | apply ia_.ic_) | exact HI373.out)) hb); have n4_ := ba_.mk (gb_ (by repeat (first | (with_reducible first | exact HB.out | apply fa_ | apply ca_ | apply ga_ | refine qa_ ?_ (ia_.ge HI373.out)) | exact HB.out)) hb); clear HO_4; clear HO_5; clear HI373; clear HB; have HO_4 := n0_; have HO_5 := n1_; have HO397 := n2_; have HI373 := n3_; have HB := n4_; clear n0_ n1_ n2_ n3_ n4_; (try clear hb); (try clear hb2); (try clear hk); (try clear hi); (try clear ho0)) | ((with_reducible refine ua_ (f := 27) rfl ?_); refine hc_ (some 44) rfl rfl Try.func27 (by kernel_rfl) rfl #[.slice Ao62 x5_1.length co62] rfl (by (try simp only [List.map_toArray, List.map_cons, List.map_nil]); first | done | rfl | (simp only [List.length_drop, List.length_take]; rfl)) ?_; (with_reducible refine (ge_.calls _ _ x5_1 t398 t399 _ ?side1 ?side2 A29.out).mono ?_); (case side1 => repeat (first | exact (Kd.ta_ HO_5.out).2.2 | (with_reducible refine Kd.yb_ ?_ _) | (with_reducible refine Kd.zb_ ?_ _) | (with_reducible refine Kd.jc_ ?_))); (case side2 => exact (Kd.ta_ HO_5.out).2.1); rintro e w64 ⟨v400, rfl, ho0, hb⟩; refine ⟨_, rfl, ?_⟩; have n0_ := ba_.mk (Kd.wb_ (by (with_reducible repeat (first | apply Kd.la_ | apply Kd.ka_ | apply Kd.ma_)); exact HO_4.out) (Kd.rc_ ho0) hb); have n1_ := ba_.mk (Kd.wb_ (by (with_reducible repeat (first | apply Kd.la_ | apply Kd.ka_ | apply Kd.ma_)); exact HO_5.out) (Kd.rc_ ho0) hb); have n2_ := ba_.mk (Kd.wb_ (by (with_reducible repeat (first | apply Kd.la_ | apply Kd.ka_ | apply Kd.ma_)); exact HO397.out) (Kd.rc_ ho0) hb); have n3_ := ba_.mk (Kd.wc_ (Kd.qc_ (Kd.qc_ (Kd.qc_ ho0 (Kd.R_lt (by (with_reducible repeat (first | apply Kd.la_ | apply Kd.ka_ | apply Kd.ma_)); exact HO_4.out))) (Kd.R_lt (by (with_reducible repeat (first | apply Kd.la_ | apply Kd.ka_ | apply Kd.ma_)); exact HO_5.out))) (Kd.R_lt (by (with_reducible repeat (first | apply Kd.la_ | apply Kd.ka_ | apply Kd.ma_)); exact HO397.out))) (eb_ (by repeat (first | (with_reducible first | exact HB.out | apply fa_ | apply ca_ | apply ga_ | refine qa_ ?_ (ia_.ge HI373.out)) | exact HB.out)))); have n4_ := ba_.mk (ia_.below (by repeat (first | (with_reducible first | exact HI373.out | apply ia_.alloc | apply ia_.drewN | apply ia_.drew | apply ia_.ic_) | exact HI373.out)) hb); have n5_ := ba_.mk (gb_ (by repeat (first | (with_reducible first | exact HB.out | apply fa_ | apply ca_ | apply ga_ | refine qa_ ?_ (ia_.ge HI373.out)) | exact HB.out)) hb); clear HO_4; clear HO_5; clear HO397; clear HI373; clear HB; have HO_4 := n0_; have HO_5 := n1_; have HO397 := n2_; have HO401 := n3_; have HI373 := n4_; have HB := n5_; clear n0_ n1_ n2_ n3_ n4_ n5_; (try clear hb); (try clear hb2); (try clear hk); (try clear hi); (try clear ho0); obtain ⟨Ao65, co65, eo65⟩ := Kd.fc_ HO397.out; subst eo65; obtain ⟨Ao66, co66, eo66⟩ := Kd.fc_ HO401.out; subst eo66) | ((with_reducible refine ua_ (f := 36) rfl ?_); refine hc_ (some 49) rfl rfl Try.func36 (by kernel_rfl) rfl #[.slice Ao65 t394.length co65, .slice Ao66 t398.length co66] rfl (by (try simp only [List.map_toArray, List.map_cons, List.map_nil]); first | done | rfl | (simp only [List.length_drop, List.length_take]; rfl)) ?_; (with_reducible refine (tb_.calls k1 _ _ t394 _ _ t398 t402 _ ?side1 ?side2 ?side3 ?side4 A30.out).mono ?_); (case side1 => repeat (first | exact (Kd.ta_ HO397.out).2.2 | (with_reducible refine Kd.yb_ ?_ _) | (with_reducible refine Kd.zb_ ?_ _) | (with_reducible refine Kd.jc_ ?_))); (case side2 => exact (Kd.ta_ HO397.out).2.1); (case side3 => repeat (first | exact (Kd.ta_ HO401.out).2.2 | (with_reducible refine Kd.yb_ ?_ _) | (with_reducible refine Kd.zb_ ?_ _) | (with_reducible refine Kd.jc_ ?_))); (case side4 => exact (Kd.ta_ HO401.out).2.1); rintro e w' ⟨rfl, ⟨nd, rfl⟩⟩; refine ⟨_, rfl, ?_⟩) | ((with_reducible refine ua_ (f := 29) rfl ?_); refine hc_ (some 52) rfl rfl Try.func29 (by kernel_rfl) rfl #[.slice Ao14 y380.length co14, .slice Ao62 x5_1.length co62] rfl (by (try simp only [List.map_toArray, List.map_cons, List.map_nil]); first | done | rfl | (simp only [List.length_drop, List.length_take]; rfl)) ?_; (with_reducible refine (aa_.calls k1 _ _ y380 _ _ x5_1 false _ ?side1 ?side2 ?side3 ?side4 A31.out).mono ?_); (case side1 => repeat (first | exact (Kd.ta_ HO_4.out).2.2 | (with_reducible refine Kd.yb_ ?_ _) | (with_reducible refine Kd.zb_ ?_ _) | (with_reducible refine Kd.jc_ ?_))); (case side2 => exact (Kd.ta_ HO_4.out).2.1); (case side3 => repeat (first | exact (Kd.ta_ HO_5.out).2.2 | (with_reducible refine Kd.yb_ ?_ _) | (with_reducible refine Kd.zb_ ?_ _) | (with_reducible refine Kd.jc_ ?_))); (case side4 => exact (Kd.ta_ HO_5.out).2.1); rintro e w' ⟨rfl, ⟨nd, rfl⟩⟩; refine ⟨_, rfl, ?_⟩) | (go_at_call 19; (with_reducible refine (ha_.calls k1  t405 _ A61.out HRT.out).mono ?_); rintro e w67 ⟨rfl, hb⟩; have n0_ := ba_.mk (Kd.cd_ (by (with_reducible repeat (first | apply Kd.la_ | apply Kd.ka_ | apply Kd.ma_)); exact HO_4.out) hb); have n1_ := ba_.mk (Kd.cd_ (by (with_reducible repeat (first | apply Kd.la_ | apply Kd.ka_ | apply Kd.ma_)); exact HO_5.out) hb); have n2_ := ba_.mk (Kd.cd_ (by (with_reducible repeat (first | apply Kd.la_ | apply Kd.ka_ | apply Kd.ma_)); exact HO397.out) hb); have n3_ := ba_.mk (Kd.cd_ (by (with_reducible repeat (first | apply Kd.la_ | apply Kd.ka_ | apply Kd.ma_)); exact HO401.out) hb); have n4_ := ba_.mk (ia_.below (by repeat (first | (with_reducible first | exact HI373.out | apply ia_.alloc | apply ia_.drewN | apply ia_.drew | apply ia_.ic_) | exact HI373.out)) hb); have n5_ := ba_.mk (gb_ (by repeat (first | (with_reducible first | exact HB.out | apply fa_ | apply ca_ | apply ga_ | refine qa_ ?_ (ia_.ge HI373.out)) | exact HB.out)) hb); clear HO_4; clear HO_5; clear HO397; clear HO401; clear HI373; clear HB; have HO_4 := n0_; have HO_5 := n1_; have HO397 := n2_; have HO401 := n3_; have HI373 := n4_; have HB := n5_; clear n0_ n1_ n2_ n3_ n4_ n5_; (try clear hb); (try clear hb2); (try clear hk); (try clear hi)))
          go_ret
          exact ⟨by first | rfl | (simp [bb_, cb_] <;> rfl) | (simp [*, bb_, cb_] <;> rfl), by repeat (first | (with_reducible first | exact HB.out | apply fa_ | apply ca_ | apply ga_ | refine qa_ ?_ (ia_.ge HI373.out)) | exact HB.out)⟩
         ·rw [if_neg c60] at H
          have c60b0 : decide (7 ≤ t402) = false := decide_eq_false c60
          clear c60
          exact absurd ((Option.some.inj H).trans HRT.out) (by decide)
        ·rw [if_neg c59] at H
         have c59b0 : (t399 == 0) = false := beq_eq_false_iff_ne.mpr c59
         have c59b1 : (t399 != 0) = true := bne_iff_ne.mpr c59
         exact absurd ((Option.some.inj H).trans HRT.out) (by decide)
       ·rw [if_neg c58] at H
        have c58b0 : (t395 == 0) = false := beq_eq_false_iff_ne.mpr c58
        have c58b1 : (t395 != 0) = true := bne_iff_ne.mpr c58
        exact absurd ((Option.some.inj H).trans HRT.out) (by decide)
  ·rw [if_neg c6] at H
   exact absurd H (by simp)
 ·rw [if_neg c5] at H
  exact absurd H (by simp)
def pb_.Pure : Prop := ∀ (l0 : List Int), l0.length ≤ maxLen → l0.length * 8 ≤ 140737488351232 → (∀ x ∈ l0, (Lit.int .i64 x).wf = true) → ∃ k, pb_.f k l0 = some true
theorem pb_.walk (P : pb_.Pure) (a0 : Option Addr) (len0 cap0 : Nat) (z0 : List Int) (w : World) (w0 : (a0 = none ∧ len0 = 0 ∧ cap0 = 0 ∧ z0 = []) ∨ ∃ x, a0 = some x ∧ len0 ≤ cap0 ∧ cap0 ≤ maxLen ∧ z0.length = cap0 ∧ (∀ i, i < z0.length → w.cell? (x.add i) = some (.int .i64 (z0.getD i 0))) ∧ ∀ n ∈ z0, (Lit.int .i64 n).wf = true) (y0 : len0 * 8 ≤ 140737488351232) :
  Calls Try.prog 12 #[.slice a0 len0 cap0] w fun e w' => e = .returned (.bool true) ∧ Below w.heap.size w w' := by
 obtain ⟨l0, rfl, hr0, hm0, hw0, hc0⟩ := le_.vk_ w0
 obtain ⟨k, h⟩ := P l0 hm0 y0 hw0
 refine (pb_.calls k _ _ l0 true w (Kd.ue_ (d := (0 : Int)) (h1 := fun _ => rfl) hr0) hc0 h rfl).mono ?_
 rintro e w' ⟨rfl, hd⟩
 exact ⟨rfl, hd⟩
end Go.Proofs.Ytpkhgapifnjbeaa.Y
end
section
namespace Go.Proofs.Ytpkhgapifnjbeaa.Pure
set_option linter.unusedVariables false
set_option linter.unusedSimpArgs false
open Go.RowKit Go.Proofs.Ytpkhgapifnjbeaa.Y Go.Proofs.YtpkhgapifnjbeaaW.PrintWords Go.Proofs.YtpkhgapifnjbeaaW.PrintLast Go.Proofs.YtpkhgapifnjbeaaW.PrintMore Go.Proofs.Ytpkhgapifnjbeaa.G Go.Proofs.Ytpkhgapifnjbeaa.Rs
theorem tg_ (a b : List Int) (hl : a.length = b.length) (h : a.length ≤ 1000) : ∀ (d i k : Nat), i + d = a.length → d < k → (∀ j, j < i → a.getD j 0 = b.getD j 0) → aa_.l0 k a b (i : Int) = some (decide (a = b)) := by
 intro d
 induction d with
 | zero =>
  intro i k hi hk hz
  obtain ⟨k, rfl⟩ : ∃ m, k = m + 1 := ⟨k - 1, by omega⟩
  simp only [aa_.l0]
  rw [if_neg (by omega)]
  have : a = b := List.ext_getElem hl fun j h1 h2 => by
   have := hz j (by omega)
   rwa [List.getD_eq_getElem?_getD, List.getD_eq_getElem?_getD, List.getElem?_eq_getElem h1, List.getElem?_eq_getElem h2] at this
  rw [decide_eq_true this]
 | succ d ih =>
  intro i k hi hk hz
  obtain ⟨k, rfl⟩ : ∃ m, k = m + 1 := ⟨k - 1, by omega⟩
  have hs : wrap64 ((i : Int) + 1) = ((i + 1 : Nat) : Int) := by unfold wrap64; omega
  simp only [aa_.l0]
  rw [if_pos (by omega), if_pos (by omega), if_pos (by omega), zd_, zd_, hs]
  by_cases e : a.getD i 0 = b.getD i 0
  ·rw [if_pos e]
   refine ih (i + 1) k (by omega) (by omega) fun j hj => ?_
   rcases Nat.lt_or_ge j i with h | h
   ·exact hz j h
   ·rw [show j = i from by omega]; exact e
  ·rw [if_neg e, decide_eq_false (fun q => e (by rw [q]))]
theorem rg_ (a b : List Int) (h : a.length ≤ 1000) (k : Nat) (hk : 1001 ≤ k) : aa_.f k a b = some (decide (a = b)) := by
 unfold aa_.f
 by_cases hl : a.length = b.length
 ·rw [if_pos (by omega)]
  exact tg_ a b hl h a.length 0 k (by omega) (by omega) (fun j hj => by omega)
 ·rw [if_neg (by omega), decide_eq_false (fun q => hl (by rw [q]))]
theorem ze_ : oe_ [3, 1] = true := by decide +kernel
theorem ki_ : mulI 16 2 = 5 := by decide +kernel
theorem inv2 : invI 2 = 18 := by decide +kernel
theorem pg_ (k : Nat) (hk : 1001 ≤ k) : ha_.f k = some true := by
 have e1 : ge_.f [3, 1] = some (encC [3, 1], 0) := by
  unfold ge_.f encS
  rw [if_pos (by decide), if_pos ze_]
 have e2 : je_.f (encC [3, 1]) = some ([3, 1], 0, 0) := by
  unfold je_.f
  rw [wj_ ze_]
 have e3 : ee_.f (encC [3, 1]) = some true := by unfold ee_.f; rw [xe_ ze_]
 have e4 : (encC [3, 1]).length = 8 := cf_ ze_
 have e5 := rg_ [3, 1] [3, 1] (by decide) k hk
 unfold ha_.f
 rw [e1]
 simp only [Option.bind_some]
 rw [e2]
 simp only [Option.bind_some, ud_.f, nc_.f, ki_, inv2, e3, e4, e5]
 simp
end Go.Proofs.Ytpkhgapifnjbeaa.Pure
end
section
namespace Go.Proofs.Ytpkhgapifnjbeaa.Y
open Go.RowKit Go.Proofs.Ytpkhgapifnjbeaa.G Go.Proofs.Ytpkhgapifnjbeaa.Rs Go.Proofs.YtpkhgapifnjbeaaW.PrintWords Go.Proofs.YtpkhgapifnjbeaaW.PrintLast Go.Proofs.YtpkhgapifnjbeaaW.PrintMore
attribute [local go_sem] dd_ fd_ rd_ sd_ uc_ vc_ ed_ gd_
set_option linter.unusedVariables false
set_option linter.unusedSimpArgs false
end Go.Proofs.Ytpkhgapifnjbeaa.Y
end
section
namespace Go.Proofs.Ytpkhgapifnjbeaa.Pure
set_option linter.unusedVariables false
set_option linter.unusedSimpArgs false
open Go.RowKit Go.Proofs.Ytpkhgapifnjbeaa.Y Go.Proofs.YtpkhgapifnjbeaaW.PrintWords Go.Proofs.YtpkhgapifnjbeaaW.PrintLast Go.Proofs.YtpkhgapifnjbeaaW.PrintMore Go.Proofs.Ytpkhgapifnjbeaa.G Go.Proofs.Ytpkhgapifnjbeaa.Rs
theorem wg_ (a b : Int) (h1 : 1 ≤ b) : (if Int.tmod a b < 0 then Int.tmod a b + b else Int.tmod a b) = a % b ∧ -b < Int.tmod a b := by
 have h := Int.emod_nonneg a (b := b) (by omega)
 have h' := Int.emod_lt_of_pos a (show 0 < b by omega)
 have e := @Int.tmod_eq_emod a b
 by_cases c : 0 ≤ a ∨ b ∣ a
 ·rw [if_pos c] at e
  rw [if_neg (by omega)]; omega
 ·rw [if_neg c] at e
  have : a % b ≠ 0 := fun q => c (.inr (Int.dvd_of_emod_eq_zero q))
  rw [if_pos (by omega)]; omega
theorem wk_ (a b : Int) (h1 : 1 ≤ b) (h2 : b ≤ 1000000) : ab_.f a b = some (a % b) := by
 obtain ⟨e, h⟩ := wg_ a b h1
 unfold ab_.f
 rw [if_neg (by omega), if_neg (by omega)]
 by_cases c : Int.tmod a b < 0
 ·rw [if_pos c] at e
  rw [if_pos c, show wrap64 (Int.tmod a b + b) = Int.tmod a b + b from by unfold wrap64; omega, e]
 ·rw [if_neg c] at e
  rw [if_neg c, e]
theorem w64 {x : Int} (h0 : -1000000000 ≤ x) (h1 : x ≤ 1000000000) : wrap64 x = x := by unfold wrap64; omega
def TA (p : Int) : Prop := 0 ≤ p ∧ p ≤ 600
theorem rn_ (l : List Int) : ∃ L, sb_.f l = some (L, 0) ∧ L.length ≤ 600 ∧ TA 0 := by
 unfold sb_.f
 by_cases h : (l.length : Int) > 600
 ·rw [if_pos h, if_pos (by omega)]
  exact ⟨_, rfl, by rw [List.length_take]; omega, by unfold TA; omega⟩
 ·rw [if_neg h]
  exact ⟨l, rfl, by omega, by unfold TA; omega⟩
theorem tn_ {L : List Int} (hL : L.length ≤ 600) {p : Int} (hp : TA p) : ∃ v q, lb_.f L p = some (v, q) ∧ TA q := by
 unfold TA at hp
 unfold lb_.f
 by_cases h : p ≥ (L.length : Int)
 ·rw [if_pos h]; exact ⟨_, _, rfl, hp⟩
 ·have e1 : wrap64 (p + 1) = p + 1 := by unfold wrap64; omega
  have e2 : wrap64 (p + 1 - 1) = p := by unfold wrap64; omega
  rw [if_neg h, e1, e2, if_pos (by omega), if_pos (by omega)]
  exact ⟨_, _, rfl, by unfold TA; omega⟩
theorem tf_ {L : List Int} (hL : L.length ≤ 600) {p : Int} (hp : TA p) (n : Int) (h1 : 1 ≤ n) (h2 : n ≤ 1000000) : ∃ v q, na_.f L p n = some (v, q) ∧ 0 ≤ v ∧ v < n ∧ TA q := by
 obtain ⟨v, q, e, hq⟩ := tn_ hL hp
 unfold na_.f
 rw [e]
 simp only [Option.bind_some]
 rw [wk_ v n h1 h2]
 exact ⟨_, _, rfl, Int.emod_nonneg _ (by omega), Int.emod_lt_of_pos _ (by omega), hq⟩
theorem wf_ {L : List Int} (hL : L.length ≤ 600) {p : Int} (hp : TA p) (a b : Int) (h0 : -1000 ≤ a) (h1 : a ≤ b) (h2 : b ≤ 100000) : ∃ v q, oa_.f L p a b = some (v, q) ∧ a ≤ v ∧ v ≤ b ∧ TA q := by
 have e1 : wrap64 (wrap64 (b - a) + 1) = b - a + 1 := by unfold wrap64; omega
 obtain ⟨v, q, e, v0, v1, hq⟩ := tf_ hL hp (b - a + 1) (by omega) (by omega)
 unfold oa_.f
 rw [e1, e]
 simp only [Option.bind_some]
 have e2 : wrap64 (a + v) = a + v := by unfold wrap64; omega
 rw [e2]
 exact ⟨_, _, rfl, by omega, by omega, hq⟩
theorem uu_ {L : List Int} (hL : L.length ≤ 600) {p : Int} (hp : TA p) (n : Int) (h1 : 1 ≤ n) (h2 : n ≤ 1000000) : ∃ v q, xb_.f L p n = some (v, q) ∧ TA q := by
 obtain ⟨v, q, e, _, _, hq⟩ := tf_ hL hp n h1 h2
 unfold xb_.f
 rw [e]
 exact ⟨_, _, rfl, hq⟩
theorem ou_ {L : List Int} (hL : L.length ≤ 600) (lo hi : Int) (h0 : -1000 ≤ lo) (h1 : lo ≤ hi) (h2 : hi ≤ 100000) : ∀ (i k : Nat) (p : Int) (ys : List Int), TA p → i < k → ys.length + i ≤ 2000 → (∀ y ∈ ys, lo ≤ y ∧ y ≤ hi) → ∃ zs q, va_.l0 k lo hi ys (i : Int) L p = some (zs, q) ∧ zs.length = ys.length + i ∧ (∀ y ∈ zs, lo ≤ y ∧ y ≤ hi) ∧ TA q := by
 intro i
 induction i with
 | zero =>
  intro k p ys hp hk _ hy
  obtain ⟨k, rfl⟩ : ∃ m, k = m + 1 := ⟨k - 1, by omega⟩
  simp only [va_.l0]
  rw [if_neg (by omega)]
  exact ⟨_, _, rfl, rfl, hy, hp⟩
 | succ i ih =>
  intro k p ys hp hk hl hy
  obtain ⟨k, rfl⟩ : ∃ m, k = m + 1 := ⟨k - 1, by omega⟩
  obtain ⟨v, q, e, v0, v1, hq⟩ := wf_ hL hp lo hi h0 h1 h2
  have e1 : wrap64 (((i + 1 : Nat) : Int) - 1) = (i : Int) := by unfold wrap64; omega
  simp only [va_.l0]
  rw [if_pos (by omega), e]
  simp only [Option.bind_some]
  rw [if_pos (by omega), e1]
  obtain ⟨zs, r, e2, l2, y2, hr⟩ := ih k q (ys ++ [v]) hq (by omega) (by rw [List.length_append, List.length_singleton]; omega) (fun y h => by
    rcases List.mem_append.1 h with h | h
    ·exact hy y h
    ·rw [List.mem_singleton.1 h]; exact ⟨v0, v1⟩)
  exact ⟨zs, r, e2, by rw [l2, List.length_append, List.length_singleton]; omega, y2, hr⟩
theorem mv_ {L : List Int} (hL : L.length ≤ 600) {p : Int} (hp : TA p) (m : Nat) (lo hi : Int) (hm : m ≤ 1000) (h0 : -1000 ≤ lo) (h1 : lo ≤ hi) (h2 : hi ≤ 100000) (k : Nat) (hk : m < k) : ∃ zs q, va_.f k L p (m : Int) lo hi = some (zs, q) ∧ zs.length ≤ m ∧ (∀ y ∈ zs, lo ≤ y ∧ y ≤ hi) ∧ TA q := by
 obtain ⟨v, q, e, v0, v1, hq⟩ := wf_ hL hp 0 (m : Int) (by omega) (by omega) (by omega)
 obtain ⟨n, rfl⟩ := Int.eq_ofNat_of_zero_le v0
 unfold va_.f
 rw [e]
 simp only [Option.bind_some]
 obtain ⟨zs, r, e2, l2, y2, hr⟩ := ou_ hL lo hi h0 h1 h2 n k q [] hq (by omega) (by simp; omega) (by simp)
 exact ⟨zs, r, e2, by rw [l2]; simp; omega, y2, hr⟩
end Go.Proofs.Ytpkhgapifnjbeaa.Pure
end
section
namespace Go.Proofs.Ytpkhgapifnjbeaa.Pure
set_option linter.unusedVariables false
set_option linter.unusedSimpArgs false
open Go.RowKit Go.Proofs.Ytpkhgapifnjbeaa.Y Go.Proofs.YtpkhgapifnjbeaaW.PrintWords Go.Proofs.YtpkhgapifnjbeaaW.PrintLast Go.Proofs.YtpkhgapifnjbeaaW.PrintMore Go.Proofs.Ytpkhgapifnjbeaa.G Go.Proofs.Ytpkhgapifnjbeaa.Rs
def dsN (a b : List Int) : Nat → Nat
 | 0 => 0
 | m + 1 => dsN a b m + if a.getD m 0 = b.getD m 0 then 0 else 1
theorem vv_ (a b : List Int) (m : Nat) : dsN a b m ≤ m := by
 induction m with
 | zero => exact Nat.le_refl _
 | succ m ih => simp only [dsN]; split <;> omega
theorem as_ (a : List Int) (m : Nat) : dsN a a m = 0 := by
 induction m with
 | zero => rfl
 | succ m ih => simp only [dsN, ih, if_true]
theorem ld1_ (a b : List Int) (m : Nat) : dsN a b m = (posN (fun i => decide (a.getD i 0 ≠ b.getD i 0)) m).length := by
 induction m with
 | zero => rfl
 | succ m ih =>
  simp only [dsN, posN, ih, List.length_append]
  congr 1
  by_cases h : a.getD m 0 = b.getD m 0
  ·rw [if_pos h, if_neg (by simpa using h)]; rfl
  ·rw [if_neg h, if_pos (by simpa using h)]; rfl
theorem iu_ (a b : List Int) (hl : a.length = b.length) (hn : a.length ≤ 1000) : ∀ (d i k : Nat), i + d = a.length → d < k → tb_.l0 k a b ((dsN a b i : Nat) : Int) (a.length : Int) (i : Int) = some ((dsN a b a.length : Nat) : Int) := by
 intro d
 induction d with
 | zero =>
  intro i k hi hk
  obtain ⟨k, rfl⟩ : ∃ m, k = m + 1 := ⟨k - 1, by omega⟩
  simp only [tb_.l0]
  rw [if_neg (by omega), show i = a.length from by omega]
 | succ d ih =>
  intro i k hi hk
  obtain ⟨k, rfl⟩ : ∃ m, k = m + 1 := ⟨k - 1, by omega⟩
  have hi1 : wrap64 ((i : Int) + 1) = ((i + 1 : Nat) : Int) := by unfold wrap64; omega
  have hle := vv_ a b i
  have g := ih (i + 1) k (by omega) (by omega)
  simp only [dsN] at g
  simp only [tb_.l0]
  rw [if_pos (by omega), if_pos (by omega), if_pos (by omega), if_pos (by omega), zd_, zd_, hi1]
  by_cases h : a.getD i 0 = b.getD i 0
  ·rw [if_pos h] at g ⊢
   exact g
  ·rw [if_neg h] at g ⊢
   rw [show wrap64 (((dsN a b i : Nat) : Int) + 1) = ((dsN a b i + 1 : Nat) : Int) from by unfold wrap64; omega]
   exact g
theorem ws_ (a b : List Int) (hn : a.length ≤ 1000) (k : Nat) (hk : 1001 ≤ k) : tb_.f k a b = some (if a.length = b.length then ((dsN a b a.length : Nat) : Int) else -1) := by
 unfold tb_.f
 by_cases hl : a.length = b.length
 ·rw [if_pos (by omega), if_pos hl]
  exact iu_ a b hl hn a.length 0 k (by omega) (by omega)
 ·rw [if_neg (by omega), if_neg hl]
end Go.Proofs.Ytpkhgapifnjbeaa.Pure
end
section
namespace Go.Proofs.Ytpkhgapifnjbeaa.Pure
set_option linter.unusedVariables false
set_option linter.unusedSimpArgs false
open Go.RowKit Go.Proofs.Ytpkhgapifnjbeaa.Y Go.Proofs.YtpkhgapifnjbeaaW.PrintWords Go.Proofs.YtpkhgapifnjbeaaW.PrintLast Go.Proofs.YtpkhgapifnjbeaaW.PrintMore Go.Proofs.Ytpkhgapifnjbeaa.G Go.Proofs.Ytpkhgapifnjbeaa.Rs
theorem set_el {d : List Int} {i : Nat} {v : Int} (h : ∀ x ∈ d, isEl x = true) (hv : isEl v = true) : ∀ x ∈ d.set i v, isEl x = true := by
 intro x hx
 rcases List.mem_or_eq_of_mem_set hx with h1 | h1
 ·exact h x h1
 ·rw [h1]; exact hv
theorem ly_ {d : List Int} (h1 : 1 ≤ d.length) (h2 : d.length ≤ 9) (h : ∀ x ∈ d, isEl x = true) : oe_ d = true := by
 unfold oe_
 simp only [Bool.and_eq_true, decide_eq_true_eq, List.all_eq_true]
 exact ⟨⟨h1, h2⟩, h⟩
theorem yy_ {d : List Int} (h : oe_ d = true) : ge_.f d = some (encC d, 0) := by
 unfold ge_.f encS
 rw [if_pos (by have := (bf_ h).2.1; omega), if_pos h]
theorem ra1_ {L a : List Int} (hL : L.length ≤ 600) (ha : oe_ a = true) : ∀ (d i k : Nat) (p : Int) (b : List Int), i + d = a.length → d + 1010 < k → TA p → b.length = a.length → (∀ x ∈ b, isEl x = true) →
  pb_.l0 k a b (i : Int) L p = some true := by
 obtain ⟨a1, a2, a3⟩ := bf_ ha
 intro d
 induction d with
 | zero =>
  intro i k p b hi hk hp hb he
  obtain ⟨k, rfl⟩ : ∃ m, k = m + 1 := ⟨k - 1, by omega⟩
  have hbd : oe_ b = true := ly_ (by omega) (by omega) he
  have l1 := cf_ ha
  have l2 := cf_ hbd
  simp only [pb_.l0]
  rw [if_neg (by omega), yy_ ha, yy_ hbd]
  simp only [Option.bind_some]
  rw [ws_ _ _ (by omega) k (by omega), rg_ a b (by omega) k (by omega), pg_ k (by omega)]
  simp only [Option.bind_some, if_true]
  rw [if_pos (show (encC a).length = (encC b).length by omega)]
  by_cases e : a = b
  ·subst e
   rw [as_]
   simp
  ·rw [if_neg (by simpa using e), if_pos]
   refine Int.not_lt.1 fun hlt => e ?_
   have h6 : (posN (fun i => decide ((encC a).getD i 0 ≠ (encC b).getD i 0)) (encC a).length).length ≤ 6 := by
    rw [← ld1_]; omega
   have := rw_ (xe_ ha) (xe_ hbd) (by omega) _ (fun i _ hi => by
    have := of_decide_eq_false hi
    exact (Classical.not_not.1 this).symm) h6
   rw [← qm_ ha, ← qm_ hbd, this, hb]
 | succ d ih =>
  intro i k p b hi hk hp hb he
  obtain ⟨k, rfl⟩ : ∃ m, k = m + 1 := ⟨k - 1, by omega⟩
  have hi1 : wrap64 ((i : Int) + 1) = ((i + 1 : Nat) : Int) := by unfold wrap64; omega
  obtain ⟨c, q, e1, hq⟩ := uu_ hL hp 3 (by omega) (by omega)
  simp only [pb_.l0]
  rw [if_pos (by omega), e1, hi1]
  simp only [Option.bind_some]
  by_cases hc : c = true
  ·obtain ⟨v, q2, e2, v0, v1, hq2⟩ := tf_ hL hq 32 (by omega) (by omega)
   rw [if_pos hc, e2]
   simp only [Option.bind_some]
   rw [if_pos (by omega)]
   exact ih (i + 1) k q2 _ (by omega) (by omega) hq2 (by rw [List.length_set]; exact hb) (set_el he ((xd_ v).2 ⟨v0, v1⟩))
  ·rw [if_neg hc]
   exact ih (i + 1) k q b (by omega) (by omega) hq hb he
theorem eu_ : pb_.Pure := by
 intro t _ _ _
 refine ⟨1200, ?_⟩
 unfold pb_.f
 obtain ⟨L, e0, hL, hp⟩ := rn_ t
 rw [e0]
 simp only [Option.bind_some]
 obtain ⟨zs, q, e1, l1, y1, hq⟩ := mv_ hL hp 8 0 31 (by omega) (by omega) (by omega) (by omega) 1200 (by omega)
 rw [show (8 : Int) = ((8 : Nat) : Int) from rfl, e1]
 simp only [Option.bind_some]
 obtain ⟨v, q2, e2, v0, v1, hq2⟩ := tf_ hL hq 32 (by omega) (by omega)
 rw [e2]
 simp only [Option.bind_some]
 have hel : ∀ x ∈ zs ++ [v], isEl x = true := by
  intro x hx
  rcases List.mem_append.1 hx with h | h
  ·have := y1 x h; exact (xd_ x).2 ⟨by omega, by omega⟩
  ·rw [List.mem_singleton.1 h]; exact (xd_ v).2 ⟨v0, v1⟩
 have hlen : (zs ++ [v]).length = zs.length + 1 := by rw [List.length_append, List.length_singleton]
 rw [if_pos (by omega), if_pos (by rw [hlen, List.length_nil]; omega), List.nil_append]
 exact ra1_ hL (ly_ (by omega) (by omega) hel) (zs ++ [v]).length 0 1200 q2 _ (by omega) (by omega) hq2 rfl hel
end Go.Proofs.Ytpkhgapifnjbeaa.Pure
end
section
namespace Go.Proofs.Ytpkhgapifnjbeaa.rscodeApart
open Go.ChangeShapes Go.WideShapes Go.ChangeAt Go.RowKit
open Go.ChangeMaps (open_string shut_string)
set_option linter.unusedVariables false
theorem own : ownKnob Try.prog.godebug = none := by kernel_rfl
theorem laidOut : laidOutB Try.prog = true := by kernel_rfl
def gk_ (k : IntKind) (w : World) (a : Option Addr) (len cap : Nat) (zs : List Int) : Prop :=
 (a = none ∧ len = 0 ∧ cap = 0 ∧ zs = []) ∨
 ∃ x, a = some x ∧ len ≤ cap ∧ cap ≤ maxLen ∧ zs.length = cap ∧ (∀ i, i < zs.length → w.cell? (x.add i) = some (.int k (zs.getD i 0))) ∧ ∀ n ∈ zs, (Lit.int k n).wf = true
set_option maxRecDepth 100000 in
theorem lifted (os : Os) (started : os.Started) (H : Type) (enc : TypeId × Value → H) :
  ReturnsInHanded {} Try.checked os 12 .any (Rows.rscodeApartSpec.pre6 enc Try.prog Try.f12 Rows.rscodeApartRow.domain false) (Rows.rscodeApartSpec.post enc Try.prog Try.f12 false true false false) := by
 refine returnsInHanded_of_change_sized (C := Try.checked) own started (by kernel_rfl) Try.func12
  (ChangeSpec.witness6 (enc := enc) (C := Try.checked) false ⟨#[], #[.slice none 0 0], []⟩ 8 (by kernel_rfl) (by kernel_rfl) (by kernel_rfl) (by kernel_rfl)) ?_
 intro W base args ds gs before hval0 hW hcnd hsz0 _
 have hsz : (DataW.weightsEach Try.prog (Try.f12.params.toList ++ Rows.rscodeApartSpec.plain.varTypes Try.prog) (ds ++ gs)).all (· ≤ reachBytes) = true := hsz0
 have hval : ∀ (j : Nat) t v, Try.f12.params[j]? = some t → args[j]? = some v → Value.okWide Try.prog W .any base t v := hval0
 have hW' := hW
 obtain ⟨p, q, hA0, hV, rfl, hfz, hnd⟩ := hW
 have hA : DataW.TrodAll enc Try.prog W 0 (fun _ => true) true Try.f12.params.toList args.toList ds p := hA0
 rw [Try.params12] at hA hval hsz
 obtain ⟨v0, vs0, d0, ds0, p0, q0, hargs, rfl, rfl, h0, r0⟩ := trodAll_cons hA
 obtain ⟨rfl, rfl, rfl⟩ := trodAll_nil r0
 obtain rfl : args = #[v0] := by cases args; simp_all
 obtain ⟨rfl, rfl⟩ := trodVars_none hV
 obtain ⟨a0, len0, cap0, rfl⟩ := okWide_slice Try.underlying27 (hval 0 27 v0 rfl rfl)
 have k0 := h0
 have lt0 : ∀ x ∈ p0, x.block < W.heap.size := by obtain ⟨m, hm⟩ := k0; exact DataW.trod_lt m _ _ _ hm
 obtain ⟨z0, w0⟩ : ∃ zs, gk_ .i64 W a0 len0 cap0 zs := by
  obtain ⟨fuel, hf⟩ := h0
  rcases open_ints Try.underlying27 Try.underlying3 (by kernel_rfl) hf with ⟨hcs, _⟩ | ⟨x, l, c, zs, hcs, _, hl, hm, hz, _, hcell, hwz⟩
  ·simp [Value.cells] at hcs
   obtain ⟨rfl, rfl, rfl⟩ := hcs
   exact ⟨[], .inl ⟨rfl, rfl, rfl, rfl⟩⟩
  ·simp [Value.cells] at hcs
   obtain ⟨rfl, rfl, rfl⟩ := hcs
   exact ⟨zs, .inr ⟨_, rfl, hl, hm, by simpa using hz, hcell, hwz⟩⟩
 have y0 : len0 * 8 ≤ 140737488351232 := Go.Proofs.YtpkhgapifnjbeaaW.PrintWords.dg_ hsz (j := 0) (t := 27) rfl rfl Try.underlying27 Try.underlying3 (by kernel_rfl) (by kernel_rfl) h0
 clear hA0 hval0 hsz0 hsz
 refine (Y.pb_.walk Pure.eu_ a0 len0 cap0 z0 W w0 y0).mono fun e W' ⟨he, bel⟩ => ?_
 subst he
 exact ⟨_, rfl, _, _, _, [], _, [], hW', trodAll_mk1 (shut_bool Try.underlying4 _), (trodAll_cons_mk (Below.trod laidOut (by kernel_rfl) (of_decide_eq_true (by kernel_rfl)) k0 bel lt0) trodAll_mk0), rfl, bel.frame _, fun h => by cases h⟩
theorem over : Rows.rscodeApartRow.holds Try.pinned (OpenSpec.ofChange Rows.rscodeApartSpec) :=
 OpenClaim.holds_of_wide 12 Try.f12 rfl rfl rfl rfl rfl rfl rfl ⟨rfl, rfl, rfl, rfl, rfl⟩ rfl rfl rfl rfl rfl (by kernel_rfl) Try.func12 (by kernel_rfl)
  (of_decide_eq_true (by kernel_rfl)) (by unfold Func.isWrapper; first | (rw [if_pos (by decide +kernel)]; kernel_rfl) | (rw [if_neg (by decide +kernel)]; exact ⟨rfl, rfl⟩))
  (fun os started H enc _ => lifted os started H enc)
theorem proved : Rows.RscodeApartSaid := over
end Go.Proofs.Ytpkhgapifnjbeaa.rscodeApart
namespace Go.Proofs.Ytpkhgapifnjbeaa
theorem rscodeApart_holds : Rows.RscodeApartSaid := rscodeApart.proved
end Go.Proofs.Ytpkhgapifnjbeaa
end
