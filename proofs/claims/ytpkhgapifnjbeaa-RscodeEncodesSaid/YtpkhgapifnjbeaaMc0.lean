/- A part of the proofs of this seat's statements (texts put together by pack2.py of this claim's repo). -/
import Derived.Test.YtpkhgapifnjbeaaProg
import Derived.Below
import Derived.Deep.Draws
import Derived.Deep.AppendLies
import Derived.Maps.AppendAt
import Derived.OwnWalk
import Derived.Laws.BytesArg
import Derived.Laws.MakeOwn
import Derived.Laws.OwnMore
import Derived.Deep.OwnRows
import Derived.Tactics
import Derived.Lib.ConvBytes
import Derived.Laws.Slices
import Derived.WalkKit
import Derived.KernelRfl
import Derived.RowKit3
import Derived.Deep.LoopGhost
import Derived.Deep.QuietTactic
import Derived.BigQuiet
import Derived.WideLaws
import Derived.Deep.DeepCutAuto
import Derived.Deep.CutBlock
import Derived.Deep.RegionHeld3
import Derived.Laws.Rows
import Derived.Lib.AppendStr
import Derived.ArgAppend
import Derived.Laws.IdiomCopy
import Derived.OrdersHeld
import Derived.Laws.BitsLemmas
import Derived.RowKit
import Derived.Test.YtpkhgapifnjbeaaRows
import Derived.ProofKit
import Derived.OpenShut
import Derived.ShutString
import Derived.ChangeOld
import Derived.SizedLaws
import Derived.Test.YtpkhgapifnjbeaaMB6
section
namespace Go.Proofs.Ytpkhgapifnjbeaa.Y
open Go.RowKit Go.Proofs.Ytpkhgapifnjbeaa.G Go.Proofs.Ytpkhgapifnjbeaa.Rs Go.Proofs.YtpkhgapifnjbeaaW.PrintWords Go.Proofs.YtpkhgapifnjbeaaW.PrintLast Go.Proofs.YtpkhgapifnjbeaaW.PrintMore
attribute [local go_sem] dd_ fd_ rd_ sd_ uc_ vc_ ed_ gd_
set_option linter.unusedVariables false
set_option linter.unusedSimpArgs false
def errW : Option Int → Value
 | none => .nilIface
 | some c => .iface 0 (.int .i64 c)
theorem bb_ : errW none = .nilIface := rfl
theorem cb_ (c : Int) : errW (some c) = .iface 0 (.int .i64 c) := rfl
theorem te_ : (Try.prog.info? 3).map (fun i => (i.zero, i.size, i.bytes)) = some (some (.int .i64 0), 1, 8) := by kernel_rfl
def re_ (xs : List (List Int)) (i : Int) : (List Int) := xs.getD i.toNat ([] : List Int)
theorem yk_ {w : World} {A : Option Addr} {n : Nat} {xs : List (List Int)} (h : Kd.C (Kd.slice 3 (Kd.int .i64)) w A n xs) (i : Int) (h0 : 0 ≤ i) (h1 : i < n) : ∃ ad A0 c0, A = some ad ∧ w.cell? (ad.add i.toNat) = some (.slice A0 (re_ xs i).length c0) ∧ (re_ xs i).length ≤ c0 ∧ (Kd.int .i64).C w A0 (re_ xs i).length (re_ xs i) := by
 obtain ⟨ad, c, e, _, hK, hc0⟩ := Kd.ai_ h ([] : List Int) i h0 h1
 have hc : ∀ j u, c[j]? = some u → w.cell? (ad.add (i.toNat * 1 + j)) = some u := hc0
 obtain ⟨A0, c0, rfl, l0, g0⟩ := hK
 exact ⟨ad, A0, c0, e, by have hq := hc 0 _ rfl; rwa [Nat.mul_one, Nat.add_zero] at hq, l0, g0⟩
end Go.Proofs.Ytpkhgapifnjbeaa.Y
end
section
namespace Go.Proofs.Ytpkhgapifnjbeaa.Y
open Go.RowKit Go.Proofs.Ytpkhgapifnjbeaa.G Go.Proofs.Ytpkhgapifnjbeaa.Rs Go.Proofs.YtpkhgapifnjbeaaW.PrintWords Go.Proofs.YtpkhgapifnjbeaaW.PrintLast Go.Proofs.YtpkhgapifnjbeaaW.PrintMore
attribute [local go_sem] dd_ fd_ rd_ sd_ uc_ vc_ ed_ gd_
set_option linter.unusedVariables false
set_option linter.unusedSimpArgs false
def ab_.f (a0 : Int) (a1 : Int) : Option (Int) := if a1 < 1 then (some 0) else (if a1 = 0 then (none) else (if (Int.tmod a0 a1) < 0 then (some (wrap64 ((Int.tmod a0 a1) + a1))) else (some (Int.tmod a0 a1))))
set_option maxHeartbeats 8000000 in
set_option maxRecDepth 100000 in
theorem ab_.calls (a0 : Int) (a1 : Int) (r : Int) (w : World) (h : ab_.f a0 a1 = some r) :
  Calls Try.prog 14 #[.int .i64 a0, .int .i64 a1] w fun e w' => e = .returned (.int .i64 r) ∧ ra_ w w' := by
 have H : (if a1 < 1 then (some 0) else (if a1 = 0 then (none) else (if (Int.tmod a0 a1) < 0 then (some (wrap64 ((Int.tmod a0 a1) + a1))) else (some (Int.tmod a0 a1))))) = some r := h
 clear h
 by_cases c3 : a1 < 1
 ·rw [if_pos c3] at H
  have c3b0 : decide (a1 < 1) = true := decide_eq_true c3
  clear c3
  obtain rfl := Option.some.inj H
  go_enter Try.func14, Try.ntmps14
  go_wp2
  go_ret
  exact ⟨by first | rfl | (simp; done) | (simp [*]; done), by repeat (first | exact ra_.refl _ | apply ra_.step)⟩
 ·rw [if_neg c3] at H
  have c3b0 : decide (a1 < 1) = false := decide_eq_false c3
  clear c3
  by_cases c4 : a1 = 0
  ·rw [if_pos c4] at H
   exact absurd H (by simp)
  ·rw [if_neg c4] at H
   have c4b0 : (a1 == 0) = false := beq_eq_false_iff_ne.mpr c4
   have c4b1 : (a1 != 0) = true := bne_iff_ne.mpr c4
   by_cases c5 : (Int.tmod a0 a1) < 0
   ·rw [if_pos c5] at H
    have c5b0 : decide ((Int.tmod a0 a1) < 0) = true := decide_eq_true c5
    clear c5
    obtain rfl := Option.some.inj H
    go_enter Try.func14, Try.ntmps14
    go_wp2
    go_ret
    exact ⟨by first | rfl | (simp; done) | (simp [*]; done), by repeat (first | exact ra_.refl _ | apply ra_.step)⟩
   ·rw [if_neg c5] at H
    have c5b0 : decide ((Int.tmod a0 a1) < 0) = false := decide_eq_false c5
    clear c5
    obtain rfl := Option.some.inj H
    go_enter Try.func14, Try.ntmps14
    go_wp2
    go_ret
    exact ⟨by first | rfl | (simp; done) | (simp [*]; done), by repeat (first | exact ra_.refl _ | apply ra_.step)⟩
def aa_.l0 : Nat → List Int → List Int → Int → Option (Bool)
 | 0, _, _, _ => none
 | k + 1, x0, x1, x5 => if x5 < (x0.length : Int) then (if 0 ≤ x5 then (if x5 < (x1.length : Int) then (if (rd x0 x5) = (rd x1 x5) then (aa_.l0 k x0 x1 (wrap64 (x5 + 1))) else (some false)) else (none)) else (none)) else (some true)
def aa_.f (k : Nat) (l0 : List Int) (l1 : List Int) : Option (Bool) := if (l0.length : Int) = (l1.length : Int) then (aa_.l0 k l0 l1 0) else (some false)
theorem aa_.xc_ : ∀ k, (∀ y0 y1 y2, LeO (aa_.l0 k y0 y1 y2) (aa_.l0 (k + 1) y0 y1 y2))
 | 0 => fun _ _ _ r h => by simp [aa_.l0] at h
 | k + 1 => by
  have ih0 := aa_.xc_ k
  ·intro y0 y1 y2
   unfold aa_.l0
   repeat' first
   | (with_reducible exact ih0 _ _ _)
   | (with_reducible exact LeO.refl _)
   | (with_reducible exact LeO.none _)
   | (with_reducible refine LeO.ite ?_ ?_)
   | (with_reducible refine LeO.bind ?_ (fun _ => ?_))
   | exact ih0 _ _ _
   | exact LeO.none _
   | refine LeO.ite ?_ ?_
   | refine LeO.bind ?_ (fun _ => ?_)
theorem aa_.mono : ∀ a0 a1 k, LeO (aa_.f k a0 a1) (aa_.f (k + 1) a0 a1) := by
 intro a0 a1 k
 have ih0 := aa_.xc_ k
 unfold aa_.f
 repeat' first
   | (with_reducible exact ih0 _ _ _)
   | (with_reducible exact LeO.refl _)
   | (with_reducible exact LeO.none _)
   | (with_reducible refine LeO.ite ?_ ?_)
   | (with_reducible refine LeO.bind ?_ (fun _ => ?_))
   | exact ih0 _ _ _
   | exact LeO.none _
   | refine LeO.ite ?_ ?_
   | refine LeO.bind ?_ (fun _ => ?_)
set_option maxHeartbeats 8000000 in
set_option maxRecDepth 100000 in
theorem aa_.calls (k : Nat) (A0 : Option Addr) (c0 : Nat) (l0 : List Int) (A1 : Option Addr) (c1 : Nat) (l1 : List Int) (r : Bool) (w : World) (hr0 : Kd.C (Kd.int .i64) w A0 l0.length l0) (hc0 : l0.length ≤ c0) (hr1 : Kd.C (Kd.int .i64) w A1 l1.length l1) (hc1 : l1.length ≤ c1) (h : aa_.f k l0 l1 = some r) :
  Calls Try.prog 29 #[.slice A0 l0.length c0, .slice A1 l1.length c1] w fun e w' => e = .returned (.bool r) ∧ ra_ w w' := by
 have HR0 := ba_.mk hr0
 have HC0 := ba_.mk hc0
 clear hr0 hc0
 have HR1 := ba_.mk hr1
 have HC1 := ba_.mk hc1
 clear hr1 hc1
 have H : (if (l0.length : Int) = (l1.length : Int) then (aa_.l0 k l0 l1 0) else (some false)) = some r := h
 clear h
 by_cases c3 : (l0.length : Int) = (l1.length : Int)
 ·rw [if_pos c3] at H
  have c3b0 : ((l0.length : Int) == (l1.length : Int)) = true := beq_iff_eq.mpr c3
  try have c3b9 := eq_true (beq_iff_eq.mp c3b0)
  have c3b1 : ((l0.length : Int) != (l1.length : Int)) = false := bne_eq_false_iff_eq.mpr c3
  have c3b2 : (l0.length == l1.length) = true := by first | simpa using c3 | (simp at c3 ⊢; omega)
  clear c3
  have H' := ba_.mk H
  clear H
  go_enter Try.func29, Try.ntmps29
  go_wp2
  repeat (go_quiet (fail); try go_wp2)
  go_loopg [5] k (fun kq v5 w' => ∃ (x5_1 : Int), v5 = .int .i64 x5_1 ∧ ba_ (aa_.l0 kq l0 l1 x5_1 = some r) ∧ ba_ (kq ≤ k) ∧ ra_ w w')
  case atStart => exact ⟨(0), (by first | rfl | (simp; done) | (simp [*]; done)), H', ⟨Nat.le_refl _⟩, by repeat (first | exact ra_.refl _ | apply ra_.step)⟩
  case round =>
   clear H'
   try clear c1
   try clear c2
   try clear p2
   try clear c3
   try clear c3b0
   try clear c3b1
   try clear c3b2
   obtain ⟨x5_1, rfl, HA, HK1, ⟨m1, rfl⟩⟩ := hrel
   cases gk with
   | zero => exact absurd HA.out (by simp [aa_.l0])
   | succ k1 =>
    have H := HA.out
    clear HA
    simp only [aa_.l0] at H
    by_cases c4 : x5_1 < (l0.length : Int)
    ·rw [if_pos c4] at H
     have c4b0 : decide (x5_1 < (l0.length : Int)) = true := decide_eq_true c4
     clear c4
     by_cases c5 : 0 ≤ x5_1
     ·rw [if_pos c5] at H
      have c5b0 : decide (0 ≤ x5_1) = true := decide_eq_true c5
      clear c5
      by_cases c6 : x5_1 < (l1.length : Int)
      ·rw [if_pos c6] at H
       have c6b0 : decide (x5_1 < (l1.length : Int)) = true := decide_eq_true c6
       clear c6
       by_cases c7 : (rd l0 x5_1) = (rd l1 x5_1)
       ·rw [if_pos c7] at H
        have c7b0 : ((rd l0 x5_1) == (rd l1 x5_1)) = true := beq_iff_eq.mpr c7
        try have c7b9 := eq_true (beq_iff_eq.mp c7b0)
        have c7b1 : ((rd l0 x5_1) != (rd l1 x5_1)) = false := bne_eq_false_iff_eq.mpr c7
        clear c7
        have H' := ba_.mk H
        clear H
        have p101 : 0 ≤ (x5_1 : Int) := of_decide_eq_true (by first | (with_reducible assumption) | assumption)
        have q101 : x5_1 < (l0.length : Int) := of_decide_eq_true (by first | (with_reducible assumption) | assumption)
        obtain ⟨ad101, e101, hx101_0⟩ := Kd.nd_ HR0.out x5_1 p101 q101
        cases e101
        replace p101 := eq_true p101
        replace q101 := eq_true q101
        have p102 : 0 ≤ (x5_1 : Int) := of_decide_eq_true (by first | (with_reducible assumption) | assumption)
        have q102 : x5_1 < (l1.length : Int) := of_decide_eq_true (by first | (with_reducible assumption) | assumption)
        obtain ⟨ad102, e102, hx102_0⟩ := Kd.nd_ HR1.out x5_1 p102 q102
        cases e102
        replace p102 := eq_true p102
        replace q102 := eq_true q102
        go_wp2
        repeat (go_quiet (fail); try go_wp2)
        go_roundg k1
        case measure => have := HK1.out; omega
        case rel => exact ⟨(wrap64 (x5_1 + 1)), (by first | rfl | (simp; done) | (simp [*]; done)), H', ⟨by have := HK1.out; omega⟩, by repeat (first | exact ra_.refl _ | apply ra_.step)⟩
       ·rw [if_neg c7] at H
        have c7b0 : ((rd l0 x5_1) == (rd l1 x5_1)) = false := beq_eq_false_iff_ne.mpr c7
        try have c7b9 := eq_false (beq_eq_false_iff_ne.mp c7b0)
        have c7b1 : ((rd l0 x5_1) != (rd l1 x5_1)) = true := bne_iff_ne.mpr c7
        obtain rfl := Option.some.inj H
        have p101 : 0 ≤ (x5_1 : Int) := of_decide_eq_true (by first | (with_reducible assumption) | assumption)
        have q101 : x5_1 < (l0.length : Int) := of_decide_eq_true (by first | (with_reducible assumption) | assumption)
        obtain ⟨ad101, e101, hx101_0⟩ := Kd.nd_ HR0.out x5_1 p101 q101
        cases e101
        replace p101 := eq_true p101
        replace q101 := eq_true q101
        have p102 : 0 ≤ (x5_1 : Int) := of_decide_eq_true (by first | (with_reducible assumption) | assumption)
        have q102 : x5_1 < (l1.length : Int) := of_decide_eq_true (by first | (with_reducible assumption) | assumption)
        obtain ⟨ad102, e102, hx102_0⟩ := Kd.nd_ HR1.out x5_1 p102 q102
        cases e102
        replace p102 := eq_true p102
        replace q102 := eq_true q102
        go_wp2
        repeat (go_quiet (fail); try go_wp2)
        go_ret
        exact ⟨by first | rfl | (simp; done) | (simp [*]; done), by repeat (first | exact ra_.refl _ | apply ra_.step)⟩
      ·rw [if_neg c6] at H
       exact absurd H (by simp)
     ·rw [if_neg c5] at H
      exact absurd H (by simp)
    ·rw [if_neg c4] at H
     have c4b0 : decide (x5_1 < (l0.length : Int)) = false := decide_eq_false c4
     clear c4
     obtain rfl := Option.some.inj H
     go_wp2
     repeat (go_quiet (fail); try go_wp2)
     go_ret
     exact ⟨by first | rfl | (simp; done) | (simp [*]; done), by repeat (first | exact ra_.refl _ | apply ra_.step)⟩
 ·rw [if_neg c3] at H
  have c3b0 : ((l0.length : Int) == (l1.length : Int)) = false := beq_eq_false_iff_ne.mpr c3
  try have c3b9 := eq_false (beq_eq_false_iff_ne.mp c3b0)
  have c3b1 : ((l0.length : Int) != (l1.length : Int)) = true := bne_iff_ne.mpr c3
  have c3b2 : (l0.length == l1.length) = false := by first | simpa using c3 | (simp at c3 ⊢; omega)
  obtain rfl := Option.some.inj H
  go_enter Try.func29, Try.ntmps29
  go_wp2
  repeat (go_quiet (fail); try go_wp2)
  go_ret
  exact ⟨by first | rfl | (simp; done) | (simp [*]; done), by repeat (first | exact ra_.refl _ | apply ra_.step)⟩
def ha_.f (k : Nat)  : Option (Bool) := (ge_.f (([3, 1] : List Int))).bind fun bt106 => ((je_.f bt106.1).bind fun bt110 => ((ud_.f 16 2).bind fun t115 => (if t115 = 5 then ((nc_.f 2).bind fun t116 => (if t116 = 18 then (if bt106.2 = 0 then (if (bt106.1.length : Int) = 8 then ((ee_.f bt106.1).bind fun t117 => (if t117 = true then (if bt110.2.2 = 0 then (if bt110.2.1 = 0 then ((aa_.f k bt110.1 (([3, 1] : List Int))).bind fun t121 => (some t121)) else (some false)) else (some false)) else (some false))) else (some false)) else (some false)) else (some false))) else (some false))))
theorem ha_.mono : ∀ k, LeO (ha_.f k ) (ha_.f (k + 1) ) := by
 intro  k
 unfold ha_.f
 repeat' first
   | (with_reducible exact aa_.mono _ _ _)
   | (with_reducible exact LeO.refl _)
   | (with_reducible exact LeO.none _)
   | (with_reducible refine LeO.ite ?_ ?_)
   | (with_reducible refine LeO.bind ?_ (fun _ => ?_))
   | exact aa_.mono _ _ _
   | exact LeO.none _
   | refine LeO.ite ?_ ?_
   | refine LeO.bind ?_ (fun _ => ?_)
set_option maxHeartbeats 8000000 in
set_option maxRecDepth 100000 in
theorem ha_.calls (k : Nat)  (r : Bool) (w : World) (h : ha_.f k  = some r) (hr_ : r = true) :
  Calls Try.prog 19 #[] w fun e w' => e = .returned (.bool r) ∧ Below w.heap.size w w' := by
 have HRT := ba_.mk hr_
 clear hr_
 have HB := ba_.mk (Below.refl w.heap.size w)
 have H : ((ge_.f (([3, 1] : List Int))).bind fun bt106 => ((je_.f bt106.1).bind fun bt110 => ((ud_.f 16 2).bind fun t115 => (if t115 = 5 then ((nc_.f 2).bind fun t116 => (if t116 = 18 then (if bt106.2 = 0 then (if (bt106.1.length : Int) = 8 then ((ee_.f bt106.1).bind fun t117 => (if t117 = true then (if bt110.2.2 = 0 then (if bt110.2.1 = 0 then ((aa_.f k bt110.1 (([3, 1] : List Int))).bind fun t121 => (some t121)) else (some false)) else (some false)) else (some false))) else (some false)) else (some false)) else (some false))) else (some false))))) = some r := h
 clear h
 obtain ⟨y103, hy103⟩ : ∃ y_ : List Int, y_ = (([3, 1] : List Int)) := ⟨_, rfl⟩
 replace H : ((ge_.f y103).bind fun bt106 => ((je_.f bt106.1).bind fun bt110 => ((ud_.f 16 2).bind fun t115 => (if t115 = 5 then ((nc_.f 2).bind fun t116 => (if t116 = 18 then (if bt106.2 = 0 then (if (bt106.1.length : Int) = 8 then ((ee_.f bt106.1).bind fun t117 => (if t117 = true then (if bt110.2.2 = 0 then (if bt110.2.1 = 0 then ((aa_.f k bt110.1 (([3, 1] : List Int))).bind fun t121 => (some t121)) else (some false)) else (some false)) else (some false))) else (some false)) else (some false)) else (some false))) else (some false))))) = some r := by first | (rw [hy103]; with_reducible exact H) | (have H2_ := (Option.bind_some _ _).symm.trans H; rw [hy103]; with_reducible exact H2_) | (have H2_ := (Option.bind_some _ _).symm.trans H; with_reducible exact H2_) | with_reducible exact H | (rw [hy103]; exact H) | exact H
 have Ny103 := ba_.mk hy103
 clear hy103
 replace H := Option.bind_eq_some_iff.mp H
 obtain ⟨⟨t106, t107⟩, A10, H⟩ := H
 replace H : ((je_.f t106).bind fun bt110 => ((ud_.f 16 2).bind fun t115 => (if t115 = 5 then ((nc_.f 2).bind fun t116 => (if t116 = 18 then (if t107 = 0 then (if (t106.length : Int) = 8 then ((ee_.f t106).bind fun t117 => (if t117 = true then (if bt110.2.2 = 0 then (if bt110.2.1 = 0 then ((aa_.f k bt110.1 (([3, 1] : List Int))).bind fun t121 => (some t121)) else (some false)) else (some false)) else (some false))) else (some false)) else (some false)) else (some false))) else (some false)))) = some r := H
 have A1 := ba_.mk A10
 clear A10
 replace H := Option.bind_eq_some_iff.mp H
 obtain ⟨⟨t110, t111, t112⟩, A20, H⟩ := H
 replace H : ((ud_.f 16 2).bind fun t115 => (if t115 = 5 then ((nc_.f 2).bind fun t116 => (if t116 = 18 then (if t107 = 0 then (if (t106.length : Int) = 8 then ((ee_.f t106).bind fun t117 => (if t117 = true then (if t112 = 0 then (if t111 = 0 then ((aa_.f k t110 (([3, 1] : List Int))).bind fun t121 => (some t121)) else (some false)) else (some false)) else (some false))) else (some false)) else (some false)) else (some false))) else (some false))) = some r := H
 have A2 := ba_.mk A20
 clear A20
 replace H := Option.bind_eq_some_iff.mp H
 obtain ⟨t115, A30, H⟩ := H
 replace H : (if t115 = 5 then ((nc_.f 2).bind fun t116 => (if t116 = 18 then (if t107 = 0 then (if (t106.length : Int) = 8 then ((ee_.f t106).bind fun t117 => (if t117 = true then (if t112 = 0 then (if t111 = 0 then ((aa_.f k t110 (([3, 1] : List Int))).bind fun t121 => (some t121)) else (some false)) else (some false)) else (some false))) else (some false)) else (some false)) else (some false))) else (some false)) = some r := H
 have A3 := ba_.mk A30
 clear A30
 by_cases c4 : t115 = 5
 ·rw [if_pos c4] at H
  have c4b0 : (t115 == 5) = true := beq_iff_eq.mpr c4
  have c4b1 : (t115 != 5) = false := bne_eq_false_iff_eq.mpr c4
  clear c4
  replace H := Option.bind_eq_some_iff.mp H
  obtain ⟨t116, A50, H⟩ := H
  replace H : (if t116 = 18 then (if t107 = 0 then (if (t106.length : Int) = 8 then ((ee_.f t106).bind fun t117 => (if t117 = true then (if t112 = 0 then (if t111 = 0 then ((aa_.f k t110 (([3, 1] : List Int))).bind fun t121 => (some t121)) else (some false)) else (some false)) else (some false))) else (some false)) else (some false)) else (some false)) = some r := H
  have A5 := ba_.mk A50
  clear A50
  by_cases c6 : t116 = 18
  ·rw [if_pos c6] at H
   have c6b0 : (t116 == 18) = true := beq_iff_eq.mpr c6
   have c6b1 : (t116 != 18) = false := bne_eq_false_iff_eq.mpr c6
   clear c6
   by_cases c7 : t107 = 0
   ·rw [if_pos c7] at H
    have c7b0 : (t107 == 0) = true := beq_iff_eq.mpr c7
    have c7b1 : (t107 != 0) = false := bne_eq_false_iff_eq.mpr c7
    clear c7
    by_cases c8 : (t106.length : Int) = 8
    ·rw [if_pos c8] at H
     have c8b0 : ((t106.length : Int) == 8) = true := beq_iff_eq.mpr c8
     try have c8b9 := eq_true (beq_iff_eq.mp c8b0)
     have c8b1 : ((t106.length : Int) != 8) = false := bne_eq_false_iff_eq.mpr c8
     clear c8
     replace H := Option.bind_eq_some_iff.mp H
     obtain ⟨t117, A90, H⟩ := H
     replace H : (if t117 = true then (if t112 = 0 then (if t111 = 0 then ((aa_.f k t110 (([3, 1] : List Int))).bind fun t121 => (some t121)) else (some false)) else (some false)) else (some false)) = some r := H
     have A9 := ba_.mk A90
     clear A90
     by_cases c10 : t117 = true
     ·subst c10
      have H1 : (if t112 = 0 then (if t111 = 0 then ((aa_.f k t110 (([3, 1] : List Int))).bind fun t121 => (some t121)) else (some false)) else (some false)) = some r := by rw [if_pos rfl] at H; exact H
      clear H
      have H := H1
      clear H1
      by_cases c11 : t112 = 0
      ·rw [if_pos c11] at H
       have c11b0 : (t112 == 0) = true := beq_iff_eq.mpr c11
       have c11b1 : (t112 != 0) = false := bne_eq_false_iff_eq.mpr c11
       clear c11
       by_cases c12 : t111 = 0
       ·rw [if_pos c12] at H
        have c12b0 : (t111 == 0) = true := beq_iff_eq.mpr c12
        have c12b1 : (t111 != 0) = false := bne_eq_false_iff_eq.mpr c12
        clear c12
        obtain ⟨y118, hy118⟩ : ∃ y_ : List Int, y_ = (([3, 1] : List Int)) := ⟨_, rfl⟩
        replace H : ((aa_.f k t110 y118).bind fun t121 => (some t121)) = some r := by first | (rw [hy118]; with_reducible exact H) | (have H2_ := (Option.bind_some _ _).symm.trans H; rw [hy118]; with_reducible exact H2_) | (have H2_ := (Option.bind_some _ _).symm.trans H; with_reducible exact H2_) | with_reducible exact H | (rw [hy118]; exact H) | exact H
        have Ny118 := ba_.mk hy118
        clear hy118
        replace H := Option.bind_eq_some_iff.mp H
        obtain ⟨t121, A130, H⟩ := H
        replace H : (some t121) = some r := H
        have A13 := ba_.mk A130
        clear A130
        obtain rfl := Option.some.inj H
        go_enter Try.func19, Try.ntmps19
        go_wp2_with (first | ((with_reducible refine yd_ (N := 7) rfl ?_); (try (refine ce_ (by rfl) ?_; dsimp only)); refine Kd.ri_ (Kd.int .i64) _ 3 ?hg (N := 7) ?hd (xs := ([3, 1] : List Int)) (inner := [.int .i64 3, .int .i64 1]) (ok := fun _ => True) (okp := fun _ => True) ?hr ?hp (fun _ hk => hk) trivial (Below.refl _ _) (Nat.le_refl _) (by simp) ?_; (case hd => rfl); (case hg => rfl); (case hr => first | (go_simp; done) | (go_simp; rfl)); (case hp => exact (Reps.one (show Kd.M (Kd.int .i64) _ _ _ 3 [.int .i64 3] from rfl) (Reps.one (show Kd.M (Kd.int .i64) _ _ _ 1 [.int .i64 1] from rfl) (Reps.none _ _)))); intro v104 w14 ho15 hb hg_ hnew_; clear hg_ hnew_; (first | rw [← Ny103.out] at ho15 | (simp only [Int.reduceToNat] at ho15; rw [← Ny103.out] at ho15)); have n0_ := ba_.mk (Kd.wc_ ho15 (eb_ (by repeat (first | (with_reducible first | exact HB.out | apply fa_ | apply ca_ | apply ga_) | exact HB.out)))); have n1_ := ba_.mk (gb_ (by repeat (first | (with_reducible first | exact HB.out | apply fa_ | apply ca_ | apply ga_) | exact HB.out)) hb); clear HB; have HO105 := n0_; have HB := n1_; clear n0_ n1_; clear hb ho15; obtain ⟨Ao16, co16, eo16⟩ := Kd.fc_ HO105.out; subst eo16) | ((with_reducible refine ua_ (f := 27) rfl ?_); refine hc_ (some 8) rfl rfl Try.func27 (by kernel_rfl) rfl #[.slice Ao16 y103.length co16] rfl (by (try simp only [List.map_toArray, List.map_cons, List.map_nil]); first | done | rfl | (simp only [List.length_drop, List.length_take]; rfl)) ?_; (with_reducible refine (ge_.calls _ _ y103 t106 t107 _ ?side1 ?side2 A1.out).mono ?_); (case side1 => repeat (first | exact (Kd.ta_ HO105.out).2.2 | (with_reducible refine Kd.yb_ ?_ _) | (with_reducible refine Kd.zb_ ?_ _) | (with_reducible refine Kd.jc_ ?_))); (case side2 => exact (Kd.ta_ HO105.out).2.1); rintro e w17 ⟨v108, rfl, ho0, hb⟩; refine ⟨_, rfl, ?_⟩; have n0_ := ba_.mk (Kd.wb_ (by (with_reducible repeat (first | apply Kd.la_ | apply Kd.ka_ | apply Kd.ma_)); exact HO105.out) (Kd.rc_ ho0) hb); have n1_ := ba_.mk (Kd.wc_ (Kd.qc_ ho0 (Kd.R_lt (by (with_reducible repeat (first | apply Kd.la_ | apply Kd.ka_ | apply Kd.ma_)); exact HO105.out))) (eb_ (by repeat (first | (with_reducible first | exact HB.out | apply fa_ | apply ca_ | apply ga_) | exact HB.out)))); have n2_ := ba_.mk (gb_ (by repeat (first | (with_reducible first | exact HB.out | apply fa_ | apply ca_ | apply ga_) | exact HB.out)) hb); clear HO105; clear HB; have HO105 := n0_; have HO109 := n1_; have HB := n2_; clear n0_ n1_ n2_; (try clear hb); (try clear hb2); (try clear hk); (try clear hi); (try clear ho0); obtain ⟨Ao18, co18, eo18⟩ := Kd.fc_ HO109.out; subst eo18) | ((with_reducible refine ua_ (f := 34) rfl ?_); refine hc_ (some 13) rfl rfl Try.func34 (by kernel_rfl) rfl #[.slice Ao18 t106.length co18] rfl (by (try simp only [List.map_toArray, List.map_cons, List.map_nil]); first | done | rfl | (simp only [List.length_drop, List.length_take]; rfl)) ?_; (with_reducible refine (je_.calls _ _ t106 t110 t111 t112 _ ?side1 ?side2 A2.out).mono ?_); (case side1 => repeat (first | exact (Kd.ta_ HO109.out).2.2 | (with_reducible refine Kd.yb_ ?_ _) | (with_reducible refine Kd.zb_ ?_ _) | (with_reducible refine Kd.jc_ ?_))); (case side2 => exact (Kd.ta_ HO109.out).2.1); rintro e w19 ⟨v113, rfl, ho0, hb⟩; refine ⟨_, rfl, ?_⟩; have n0_ := ba_.mk (Kd.wb_ (by (with_reducible repeat (first | apply Kd.la_ | apply Kd.ka_ | apply Kd.ma_)); exact HO105.out) (Kd.rc_ ho0) hb); have n1_ := ba_.mk (Kd.wb_ (by (with_reducible repeat (first | apply Kd.la_ | apply Kd.ka_ | apply Kd.ma_)); exact HO109.out) (Kd.rc_ ho0) hb); have n2_ := ba_.mk (Kd.wc_ (Kd.qc_ (Kd.qc_ ho0 (Kd.R_lt (by (with_reducible repeat (first | apply Kd.la_ | apply Kd.ka_ | apply Kd.ma_)); exact HO105.out))) (Kd.R_lt (by (with_reducible repeat (first | apply Kd.la_ | apply Kd.ka_ | apply Kd.ma_)); exact HO109.out))) (eb_ (by repeat (first | (with_reducible first | exact HB.out | apply fa_ | apply ca_ | apply ga_) | exact HB.out)))); have n3_ := ba_.mk (gb_ (by repeat (first | (with_reducible first | exact HB.out | apply fa_ | apply ca_ | apply ga_) | exact HB.out)) hb); clear HO105; clear HO109; clear HB; have HO105 := n0_; have HO109 := n1_; have HO114 := n2_; have HB := n3_; clear n0_ n1_ n2_ n3_; (try clear hb); (try clear hb2); (try clear hk); (try clear hi); (try clear ho0)) | ((with_reducible refine ua_ (f := 15) rfl ?_); refine hc_ (some 17) rfl rfl Try.func15 (by kernel_rfl) rfl #[.int .i64 16, .int .i64 2] rfl (by (try simp only [List.map_toArray, List.map_cons, List.map_nil]); first | done | rfl | (simp only [List.length_drop, List.length_take]; rfl)) ?_; (with_reducible refine (ud_.calls 16 2 t115 _ A3.out).mono ?_); rintro e w' ⟨rfl, ⟨nd, rfl⟩⟩; refine ⟨_, rfl, ?_⟩) | (go_at_call 17; (with_reducible refine (nc_.calls 2 t116 _ A5.out).mono ?_); rintro e w' ⟨rfl, ⟨nd, rfl⟩⟩) | (go_at_call 32; (with_reducible refine (ee_.calls _ _ t106 true _ ?side1 ?side2 A9.out).mono ?_); (case side1 => repeat (first | exact (Kd.ta_ HO109.out).2.2 | (with_reducible refine Kd.yb_ ?_ _) | (with_reducible refine Kd.zb_ ?_ _) | (with_reducible refine Kd.jc_ ?_))); (case side2 => exact (Kd.ta_ HO109.out).2.1); rintro e w20 ⟨rfl, hb⟩; have n0_ := ba_.mk (Kd.cd_ (by (with_reducible repeat (first | apply Kd.la_ | apply Kd.ka_ | apply Kd.ma_)); exact HO105.out) hb); have n1_ := ba_.mk (Kd.cd_ (by (with_reducible repeat (first | apply Kd.la_ | apply Kd.ka_ | apply Kd.ma_)); exact HO109.out) hb); have n2_ := ba_.mk (Kd.cd_ (by (with_reducible repeat (first | apply Kd.la_ | apply Kd.ka_ | apply Kd.ma_)); exact HO114.out) hb); have n3_ := ba_.mk (gb_ (by repeat (first | (with_reducible first | exact HB.out | apply fa_ | apply ca_ | apply ga_) | exact HB.out)) hb); clear HO105; clear HO109; clear HO114; clear HB; have HO105 := n0_; have HO109 := n1_; have HO114 := n2_; have HB := n3_; clear n0_ n1_ n2_ n3_; (try clear hb); (try clear hb2); (try clear hk); (try clear hi)) | ((with_reducible refine yd_ (N := 46) rfl ?_); (try (refine ce_ (by rfl) ?_; dsimp only)); refine Kd.ri_ (Kd.int .i64) _ 3 ?hg (N := 46) ?hd (xs := ([3, 1] : List Int)) (inner := [.int .i64 3, .int .i64 1]) (ok := fun _ => True) (okp := fun _ => True) ?hr ?hp (fun _ hk => hk) trivial (Below.refl _ _) (Nat.le_refl _) (by simp) ?_; (case hd => rfl); (case hg => rfl); (case hr => first | (go_simp; done) | (go_simp; rfl)); (case hp => exact (Reps.one (show Kd.M (Kd.int .i64) _ _ _ 3 [.int .i64 3] from rfl) (Reps.one (show Kd.M (Kd.int .i64) _ _ _ 1 [.int .i64 1] from rfl) (Reps.none _ _)))); intro v119 w21 ho22 hb hg_ hnew_; clear hg_ hnew_; (first | rw [← Ny118.out] at ho22 | (simp only [Int.reduceToNat] at ho22; rw [← Ny118.out] at ho22)); have n0_ := ba_.mk (Kd.wb_ (by (with_reducible repeat (first | apply Kd.la_ | apply Kd.ka_ | apply Kd.ma_)); exact HO105.out) (Kd.rc_ ho22) hb); have n1_ := ba_.mk (Kd.wb_ (by (with_reducible repeat (first | apply Kd.la_ | apply Kd.ka_ | apply Kd.ma_)); exact HO109.out) (Kd.rc_ ho22) hb); have n2_ := ba_.mk (Kd.wb_ (by (with_reducible repeat (first | apply Kd.la_ | apply Kd.ka_ | apply Kd.ma_)); exact HO114.out) (Kd.rc_ ho22) hb); have n3_ := ba_.mk (Kd.wc_ (Kd.qc_ (Kd.qc_ (Kd.qc_ ho22 (Kd.R_lt (by (with_reducible repeat (first | apply Kd.la_ | apply Kd.ka_ | apply Kd.ma_)); exact HO105.out))) (Kd.R_lt (by (with_reducible repeat (first | apply Kd.la_ | apply Kd.ka_ | apply Kd.ma_)); exact HO109.out))) (Kd.R_lt (by (with_reducible repeat (first | apply Kd.la_ | apply Kd.ka_ | apply Kd.ma_)); exact HO114.out))) (eb_ (by repeat (first | (with_reducible first | exact HB.out | apply fa_ | apply ca_ | apply ga_) | exact HB.out)))); have n4_ := ba_.mk (gb_ (by repeat (first | (with_reducible first | exact HB.out | apply fa_ | apply ca_ | apply ga_) | exact HB.out)) hb); clear HO105; clear HO109; clear HO114; clear HB; have HO105 := n0_; have HO109 := n1_; have HO114 := n2_; have HO120 := n3_; have HB := n4_; clear n0_ n1_ n2_ n3_ n4_; clear hb ho22; obtain ⟨Ao23, co23, eo23⟩ := Kd.fc_ HO114.out; subst eo23; obtain ⟨Ao24, co24, eo24⟩ := Kd.fc_ HO120.out; subst eo24) | (go_at_call 29; (with_reducible refine (aa_.calls k _ _ t110 _ _ y118 t121 _ ?side1 ?side2 ?side3 ?side4 A13.out).mono ?_); (case side1 => repeat (first | exact (Kd.ta_ HO114.out).2.2 | (with_reducible refine Kd.yb_ ?_ _) | (with_reducible refine Kd.zb_ ?_ _) | (with_reducible refine Kd.jc_ ?_))); (case side2 => exact (Kd.ta_ HO114.out).2.1); (case side3 => repeat (first | exact (Kd.ta_ HO120.out).2.2 | (with_reducible refine Kd.yb_ ?_ _) | (with_reducible refine Kd.zb_ ?_ _) | (with_reducible refine Kd.jc_ ?_))); (case side4 => exact (Kd.ta_ HO120.out).2.1); rintro e w' ⟨rfl, ⟨nd, rfl⟩⟩))
        go_ret
        exact ⟨by first | rfl | (simp [bb_, cb_] <;> rfl) | (simp [*, bb_, cb_] <;> rfl), by repeat (first | (with_reducible first | exact HB.out | apply fa_ | apply ca_ | apply ga_) | exact HB.out)⟩
       ·rw [if_neg c12] at H
        have c12b0 : (t111 == 0) = false := beq_eq_false_iff_ne.mpr c12
        have c12b1 : (t111 != 0) = true := bne_iff_ne.mpr c12
        exact absurd ((Option.some.inj H).trans HRT.out) (by decide)
      ·rw [if_neg c11] at H
       have c11b0 : (t112 == 0) = false := beq_eq_false_iff_ne.mpr c11
       have c11b1 : (t112 != 0) = true := bne_iff_ne.mpr c11
       exact absurd ((Option.some.inj H).trans HRT.out) (by decide)
     ·replace c10 := Bool.eq_false_iff.mpr c10
      subst c10
      have H1 : (some false) = some r := by rw [if_neg (show ¬ (false = true) by decide)] at H; exact H
      clear H
      have H := H1
      clear H1
      exact absurd ((Option.some.inj H).trans HRT.out) (by decide)
    ·rw [if_neg c8] at H
     have c8b0 : ((t106.length : Int) == 8) = false := beq_eq_false_iff_ne.mpr c8
     try have c8b9 := eq_false (beq_eq_false_iff_ne.mp c8b0)
     have c8b1 : ((t106.length : Int) != 8) = true := bne_iff_ne.mpr c8
     exact absurd ((Option.some.inj H).trans HRT.out) (by decide)
   ·rw [if_neg c7] at H
    have c7b0 : (t107 == 0) = false := beq_eq_false_iff_ne.mpr c7
    have c7b1 : (t107 != 0) = true := bne_iff_ne.mpr c7
    exact absurd ((Option.some.inj H).trans HRT.out) (by decide)
  ·rw [if_neg c6] at H
   have c6b0 : (t116 == 18) = false := beq_eq_false_iff_ne.mpr c6
   have c6b1 : (t116 != 18) = true := bne_iff_ne.mpr c6
   exact absurd ((Option.some.inj H).trans HRT.out) (by decide)
 ·rw [if_neg c4] at H
  have c4b0 : (t115 == 5) = false := beq_eq_false_iff_ne.mpr c4
  have c4b1 : (t115 != 5) = true := bne_iff_ne.mpr c4
  exact absurd ((Option.some.inj H).trans HRT.out) (by decide)
end Go.Proofs.Ytpkhgapifnjbeaa.Y
end
section
namespace Go.Proofs.Ytpkhgapifnjbeaa.Y
open Go.RowKit Go.Proofs.Ytpkhgapifnjbeaa.G Go.Proofs.Ytpkhgapifnjbeaa.Rs Go.Proofs.YtpkhgapifnjbeaaW.PrintWords Go.Proofs.YtpkhgapifnjbeaaW.PrintLast Go.Proofs.YtpkhgapifnjbeaaW.PrintMore
attribute [local go_sem] dd_ fd_ rd_ sd_ uc_ vc_ ed_ gd_
set_option linter.unusedVariables false
set_option linter.unusedSimpArgs false
def ia_ (w0 W : World) (g : Nat) (f0 : List Int) (f1 : Int) : Prop := ∃ A0 c0, W.heap[g]? = some (.cells #[.slice A0 f0.length c0, .int .i64 f1] 48 (0, 0)) ∧ w0.heap.size ≤ g ∧ Kd.C (Kd.int .i64) w0 A0 f0.length f0
theorem ia_.grown {w0 W : World} {g : Nat} {f0 : List Int} {f1 : Int} {W1 : World} {row : Option Nat} (h : ia_ w0 W g f0 f1) (hw : W.grownBy W1 row) (hne : some g ≠ row) : ia_ w0 W1 g f0 f1 := by
 obtain ⟨A0, c0, hb, hg, hr0⟩ := h
 exact ⟨A0, c0, bi_ hb hw hne, hg, hr0⟩
theorem ia_.kept {w0 W : World} {g : Nat} {f0 : List Int} {f1 : Int} {W1 : World} {S : Nat → Prop} (h : ia_ w0 W g f0 f1) (hk : Kept W W1 S) (hne : ¬ S g) : ia_ w0 W1 g f0 f1 := by
 obtain ⟨A0, c0, hb, hg, hr0⟩ := h
 exact ⟨A0, c0, zi_ hb hk hne, hg, hr0⟩
theorem ia_.below {w0 W : World} {g : Nat} {f0 : List Int} {f1 : Int} {W1 : World} (h : ia_ w0 W g f0 f1) (hw : Below W.heap.size W W1) : ia_ w0 W1 g f0 f1 := h.grown (ef_ hw none) (by simp)
theorem ia_.alloc {w0 W : World} {g : Nat} {f0 : List Int} {f1 : Int} (h : ia_ w0 W g f0 f1) (o : Obj) : ia_ w0 (W.alloc o) g f0 f1 := h.below (fa_ (Below.refl _ _) o)
theorem ia_.drewN {w0 W : World} {g : Nat} {f0 : List Int} {f1 : Int} (h : ia_ w0 W g f0 f1) (m : Nat) : ia_ w0 (W.drewN m) g f0 f1 := h
theorem ia_.drew {w0 W : World} {g : Nat} {f0 : List Int} {f1 : Int} (h : ia_ w0 W g f0 f1) : ia_ w0 W.drew g f0 f1 := h
theorem ia_.at_ {w0 W : World} {g : Nat} {f0 : List Int} {f1 : Int} {w' : World} {m : Nat} (hq : W.drewN m = w') (h : ia_ w0 W g f0 f1) : ia_ w0 w' g f0 f1 := by subst hq; exact ia_.drewN h m
theorem ia_.apart {w0 W : World} {g : Nat} {f0 : List Int} {f1 : Int} {α : Type} {d : Kd α} {e : Nat} {base : Nat} {ok : Nat → Prop} {v : Value} {xs : List α} (h : ia_ w0 W g f0 f1) (ho : d.R e W base ok v xs) (ht : ∀ q, q ∈ e :: d.E → q ≠ 48) : d.R e W base (fun k => ok k ∧ k ≠ g) v xs := by
 obtain ⟨A0, c0, hb, hg, hr0⟩ := h
 exact Kd.gj_ ho hb ht
theorem ia_.fe_ {w0 W : World} {g : Nat} {f0 : List Int} {f1 : Int} {α : Type} {d : Kd α} {e : Nat} {base : Nat} {ok : Nat → Prop} {v : Value} {xs : List α} (h : ia_ w0 W g f0 f1) (ho : d.R e W base ok v xs) (ht : e ≠ 48) : some g ≠ v.ownBlock := by
 obtain ⟨A0, c0, hb, hg, hr0⟩ := h
 exact Kd.R_ne ho hb ht
theorem ia_.lt {w0 W : World} {g : Nat} {f0 : List Int} {f1 : Int} (h : ia_ w0 W g f0 f1) : g < W.heap.size := by
 obtain ⟨A0, c0, hb, hg, hr0⟩ := h
 exact qj_ hb
theorem ia_.ge {w0 W : World} {g : Nat} {f0 : List Int} {f1 : Int} (h : ia_ w0 W g f0 f1) : w0.heap.size ≤ g := by
 obtain ⟨A0, c0, hb, hg, hr0⟩ := h
 exact hg
theorem jf_ {W : World} {g : Nat} {A0 : Option Addr} {c0 : Nat} {f0 : List Int} {f1 : Int} (h : W.heap[g]? = some (.cells #[.slice A0 f0.length c0, .int .i64 f1] 48 (0, 0))) : W.cell? ⟨g, 0, none⟩ = some (.slice A0 f0.length c0) := (jh_ h 0).trans rfl
theorem kf_ {W : World} {g : Nat} {A0 : Option Addr} {c0 : Nat} {f0 : List Int} {f1 : Int} (h : W.heap[g]? = some (.cells #[.slice A0 f0.length c0, .int .i64 f1] 48 (0, 0))) : W.cell? ⟨g, 1, none⟩ = some (.int .i64 f1) := (jh_ h 1).trans rfl
theorem ia_.ic_ {w0 W : World} {g : Nat} {f0 : List Int} {f1 : Int} (h : ia_ w0 W g f0 f1) (x : Int) : ia_ w0 (W.setCell ⟨g, 1, none⟩ (.int .i64 x)) g f0 x := by
 obtain ⟨A0, c0, hb, hg, hr0⟩ := h
 exact ⟨A0, c0, by simpa using zk_ hb 1 (.int .i64 x), hg, hr0⟩
def sb_.f (l0 : List Int) : Option (List Int × Int) := if (l0.length : Int) > 600 then (if 600 ≤ (l0.length : Int) then (some (l0.take 600, 0)) else (none)) else (some (l0, 0))
set_option maxHeartbeats 8000000 in
set_option maxRecDepth 100000 in
theorem sb_.calls (A0 : Option Addr) (c0 : Nat) (l0 : List Int) (r1 : List Int) (r2 : Int) (w0 w : World) (hB : Below w0.heap.size w0 w) (hr0 : Kd.C (Kd.int .i64) w0 A0 l0.length l0) (hc0 : l0.length ≤ c0) (h : sb_.f l0 = some (r1, r2)) :
  Calls Try.prog 22 #[.slice A0 l0.length c0] w fun e w' => ∃ g_ : Nat, e = .returned (.pointer (some ⟨g_, 0, none⟩)) ∧ ia_ w0 w' g_ r1 r2 ∧ Below w0.heap.size w0 w' ∧ Below w.heap.size w w' := by
 have hu48 := Try.underlying48
 have HR0 := ba_.mk hr0
 have HC0 := ba_.mk hc0
 clear hr0 hc0
 have HBW := ba_.mk (Below.refl w.heap.size w)
 have HW0 := ba_.mk hB.size
 have HB := ba_.mk hB
 clear hB
 have H : (if (l0.length : Int) > 600 then (if 600 ≤ (l0.length : Int) then (some (l0.take 600, 0)) else (none)) else (some (l0, 0))) = some (r1, r2) := h
 clear h
 by_cases c2 : (l0.length : Int) > 600
 ·rw [if_pos c2] at H
  have c2b0 : decide (600 < (l0.length : Int)) = true := decide_eq_true c2
  have c2b1 : decide (600 < l0.length) = true := decide_eq_true (by omega)
  clear c2
  by_cases c3 : 600 ≤ (l0.length : Int)
  ·rw [if_pos c3] at H
   have c3b0 := eq_true c3
   have c3b1 : decide (600 ≤ (l0.length : Int)) = true := decide_eq_true c3
   clear c3
   simp only [Option.some.injEq, Prod.mk.injEq] at H
   obtain ⟨rfl, rfl⟩ := H
   obtain ⟨i04, hi04, _, hsz4, _⟩ := info_parts te_
   obtain ⟨hcut4, hA4, hC4⟩ := hf_ (P := Try.prog) (Value.int .i64) 0 27 3 .i64 Try.underlying27 hi04 hsz4 A0 c0 l0 600 (by omega) (of_decide_eq_true (by first | (with_reducible assumption) | assumption)) HC0.out
   have HR157 := ba_.mk (Kd.ue_ (h1 := fun _ => rfl) (hA4 _ (Kd.xf_ HR0.out)))
   have HC157 := ba_.mk hC4
   clear hA4 hC4 hi04 hsz4
   go_enter Try.func22, Try.ntmps22
   go_wp2_with (first | ((with_reducible refine yd_ (N := 10) rfl ?_); refine gg_ ?hg (N := 10) ?hd (cs := #[.slice A0 (l0.take 600).length c0, .int .i64 0]) (t := 48) ?hr ?_; (case hd => rfl); (case hg => rfl); (case hr => first | (go_simp; done) | (go_simp; rfl)); intro gb158 hg w5 hbox hb; have n0_ := ba_.mk (gb_ HBW.out hb); have n1_ := ba_.mk (gb_ (by repeat (first | (with_reducible first | exact HB.out | apply fa_ | apply ca_ | apply ga_) | exact HB.out)) hb); have n2_ := ba_.mk (hbox); have n3_ := ba_.mk ((by rw [hg]; exact (eb_ (by repeat (first | (with_reducible first | exact HBW.out | apply fa_ | apply ca_ | apply ga_) | exact HBW.out))) : w.heap.size ≤ gb158)); have n4_ := ba_.mk ((Nat.le_trans HW0.out (by rw [hg]; exact (eb_ (by repeat (first | (with_reducible first | exact HBW.out | apply fa_ | apply ca_ | apply ga_) | exact HBW.out))) : w.heap.size ≤ gb158) : w0.heap.size ≤ gb158)); clear HBW; clear HB; have HBW := n0_; have HB := n1_; have BK158 := n2_; have GW158 := n3_; have GE158 := n4_; clear n0_ n1_ n2_ n3_ n4_; clear hb hbox hg))
   go_ret
   exact ⟨_, rfl, (show ia_ w0 _ gb158 (l0.take 600) 0 from ⟨_, _, by (with_reducible repeat (first | refine fg_ ?_ _ | refine kh_ ?_ | refine eg_ ?_ _)); exact BK158.out, GE158.out, HR157.out⟩), by repeat (first | (with_reducible first | exact HB.out | apply fa_ | apply ca_ | apply ga_ | refine qa_ ?_ GE158.out) | exact HB.out), by repeat (first | (with_reducible first | exact HBW.out | apply fa_ | apply ca_ | apply ga_ | refine qa_ ?_ GW158.out) | exact HBW.out)⟩
  ·rw [if_neg c3] at H
   exact absurd H (by simp)
 ·rw [if_neg c2] at H
  have c2b0 : decide (600 < (l0.length : Int)) = false := decide_eq_false c2
  have c2b1 : decide (600 < l0.length) = false := decide_eq_false (by omega)
  clear c2
  simp only [Option.some.injEq, Prod.mk.injEq] at H
  obtain ⟨rfl, rfl⟩ := H
  go_enter Try.func22, Try.ntmps22
  go_wp2_with (first | ((with_reducible refine yd_ (N := 10) rfl ?_); refine gg_ ?hg (N := 10) ?hd (cs := #[.slice A0 l0.length c0, .int .i64 0]) (t := 48) ?hr ?_; (case hd => rfl); (case hg => rfl); (case hr => first | (go_simp; done) | (go_simp; rfl)); intro gb159 hg w6 hbox hb; have n0_ := ba_.mk (gb_ HBW.out hb); have n1_ := ba_.mk (gb_ (by repeat (first | (with_reducible first | exact HB.out | apply fa_ | apply ca_ | apply ga_) | exact HB.out)) hb); have n2_ := ba_.mk (hbox); have n3_ := ba_.mk ((by rw [hg]; exact (eb_ (by repeat (first | (with_reducible first | exact HBW.out | apply fa_ | apply ca_ | apply ga_) | exact HBW.out))) : w.heap.size ≤ gb159)); have n4_ := ba_.mk ((Nat.le_trans HW0.out (by rw [hg]; exact (eb_ (by repeat (first | (with_reducible first | exact HBW.out | apply fa_ | apply ca_ | apply ga_) | exact HBW.out))) : w.heap.size ≤ gb159) : w0.heap.size ≤ gb159)); clear HBW; clear HB; have HBW := n0_; have HB := n1_; have BK159 := n2_; have GW159 := n3_; have GE159 := n4_; clear n0_ n1_ n2_ n3_ n4_; clear hb hbox hg))
  go_ret
  exact ⟨_, rfl, (show ia_ w0 _ gb159 l0 0 from ⟨_, _, by (with_reducible repeat (first | refine fg_ ?_ _ | refine kh_ ?_ | refine eg_ ?_ _)); exact BK159.out, GE159.out, HR0.out⟩), by repeat (first | (with_reducible first | exact HB.out | apply fa_ | apply ca_ | apply ga_ | refine qa_ ?_ GE159.out) | exact HB.out), by repeat (first | (with_reducible first | exact HBW.out | apply fa_ | apply ca_ | apply ga_ | refine qa_ ?_ GW159.out) | exact HBW.out)⟩
def lb_.f (s0_0 : List Int) (s0_1 : Int) : Option (Int × Int) := if s0_1 ≥ (s0_0.length : Int) then (some (0, s0_1)) else (if 0 ≤ (wrap64 ((wrap64 (s0_1 + 1)) - 1)) then (if (wrap64 ((wrap64 (s0_1 + 1)) - 1)) < (s0_0.length : Int) then (some (rd s0_0 (wrap64 ((wrap64 (s0_1 + 1)) - 1)), wrap64 (s0_1 + 1))) else (none)) else (none))
set_option maxHeartbeats 8000000 in
set_option maxRecDepth 100000 in
theorem lb_.calls (g : Nat) (s0_0 : List Int) (s0_1 : Int) (r1 : Int) (r2 : Int) (w0 w : World) (hI : ia_ w0 w g s0_0 s0_1) (hB : Below w0.heap.size w0 w) (h : lb_.f s0_0 s0_1 = some (r1, r2)) :
  Calls Try.prog 42 #[.pointer (some ⟨g, 0, none⟩)] w fun e w' => e = .returned (.int .i64 r1) ∧ ia_ w0 w' g s0_0 r2 ∧ Below w0.heap.size w0 w' ∧ xa_ w w' g none := by
 have HI0 := ba_.mk hI
 have HK := ba_.mk (xa_.refl w g none)
 have HL := ba_.mk hB.size
 clear hI
 have HW0 := ba_.mk hB.size
 have HB := ba_.mk hB
 clear hB
 have H : (if s0_1 ≥ (s0_0.length : Int) then (some (0, s0_1)) else (if 0 ≤ (wrap64 ((wrap64 (s0_1 + 1)) - 1)) then (if (wrap64 ((wrap64 (s0_1 + 1)) - 1)) < (s0_0.length : Int) then (some (rd s0_0 (wrap64 ((wrap64 (s0_1 + 1)) - 1)), wrap64 (s0_1 + 1))) else (none)) else (none))) = some (r1, r2) := h
 clear h
 by_cases c2 : s0_1 ≥ (s0_0.length : Int)
 ·rw [if_pos c2] at H
  have c2b0 : decide ((s0_0.length : Int) ≤ s0_1) = true := decide_eq_true c2
  clear c2
  simp only [Option.some.injEq, Prod.mk.injEq] at H
  obtain ⟨rfl, rfl⟩ := H
  obtain ⟨ASz3_0, cSz3_0, HGz3, hgz3, HSz3_0⟩ := HI0.out
  have hcz3_0 := jf_ HGz3
  have hcz3_1 := kf_ HGz3
  have hfz3_1 := nf_ HGz3 1
  clear HGz3 hgz3
  go_enter Try.func42, Try.ntmps42
  go_wp2
  repeat (go_quiet (fail); try go_wp2)
  go_ret
  exact ⟨by first | rfl | (simp [bb_, cb_] <;> rfl) | (simp [*, bb_, cb_] <;> rfl), by repeat (first | (with_reducible first | exact HI0.out | apply ia_.alloc | apply ia_.drewN | apply ia_.drew | apply ia_.ic_) | exact HI0.out), by repeat (first | (with_reducible first | exact HB.out | apply fa_ | apply ca_ | apply ga_ | refine qa_ ?_ (ia_.ge HI0.out)) | exact HB.out), by repeat (first | (with_reducible first | exact HK.out | apply xa_.set_ | apply kb_ | apply rb_ | apply jb_) | exact HK.out)⟩
 ·rw [if_neg c2] at H
  have c2b0 : decide ((s0_0.length : Int) ≤ s0_1) = false := decide_eq_false c2
  clear c2
  obtain ⟨ji4, hji4⟩ : ∃ j_ : Int, (wrap64 ((wrap64 (s0_1 + 1)) - 1)) = j_ := ⟨_, rfl⟩
  replace H : (if 0 ≤ (ji4) then (if (ji4) < (s0_0.length : Int) then (some (rd s0_0 (ji4), wrap64 (s0_1 + 1))) else (none)) else (none)) = some (r1, r2) := by first | (rw [hji4] at H; exact H) | (simp only [hji4] at H ⊢; exact H)
  have hji4w : (IntKind.i64.wrap ((wrap64 (s0_1 + 1)) - 1)) = ji4 := (gc_ _).trans hji4
  by_cases c5 : 0 ≤ (ji4)
  ·rw [if_pos c5] at H
   have c5b0 : decide (0 ≤ (ji4)) = true := decide_eq_true c5
   clear c5
   by_cases c6 : (ji4) < (s0_0.length : Int)
   ·rw [if_pos c6] at H
    have c6b0 : decide ((ji4) < (s0_0.length : Int)) = true := decide_eq_true c6
    clear c6
    simp only [Option.some.injEq, Prod.mk.injEq] at H
    obtain ⟨rfl, rfl⟩ := H
    obtain ⟨ASz7_0, cSz7_0, HGz7, hgz7, HSz7_0⟩ := HI0.out
    have hcz7_0 := jf_ HGz7
    have hcz7_1 := kf_ HGz7
    have hfz7_1 := nf_ HGz7 1
    clear HGz7 hgz7
    have p160 : 0 ≤ ((ji4) : Int) := of_decide_eq_true (by first | (with_reducible assumption) | assumption)
    have q160 : (ji4) < (s0_0.length : Int) := of_decide_eq_true (by first | (with_reducible assumption) | assumption)
    obtain ⟨ad160, e160, hx160_0⟩ := Kd.nd_ HSz7_0 (ji4) p160 q160
    cases e160
    have hn160_0 : ad160.block ≠ g := Nat.ne_of_lt (Nat.lt_of_lt_of_le (by have := World.block_lt_of_cell? _ _ hx160_0; first | rwa [ae_] at this | exact this) (ia_.ge HI0.out))
    replace hx160_0 := rf_ HB.out hx160_0
    replace hx160_0 := (cell_far (p := ⟨g, 1, none⟩) (by first | (rw [ae_]; exact hn160_0) | (show (Addr.add _ _).block ≠ _; rw [ae_]; exact hn160_0) | exact hn160_0) (.int .i64 (wrap64 (s0_1 + 1)))).trans hx160_0
    (try have hy160_0 := fun (n_ : Nat) => (show (((w.drewN n_).setCell ⟨g, 1, none⟩ (.int .i64 (wrap64 (s0_1 + 1))))).cell? _ = some _ from hx160_0))
    clear hn160_0
    replace p160 := eq_true p160
    replace q160 := eq_true q160
    go_enter Try.func42, Try.ntmps42
    go_wp2
    repeat (go_quiet (fail); try go_wp2)
    go_ret
    exact ⟨by first | rfl | (simp [bb_, cb_] <;> rfl) | (simp only [← hji4]; first | rfl | (simp [bb_, cb_] <;> rfl)) | (simp [*, bb_, cb_] <;> rfl), by repeat (first | (with_reducible first | exact HI0.out | apply ia_.alloc | apply ia_.drewN | apply ia_.drew | apply ia_.ic_) | exact HI0.out), by repeat (first | (with_reducible first | exact HB.out | apply fa_ | apply ca_ | apply ga_ | refine qa_ ?_ (ia_.ge HI0.out)) | exact HB.out), by repeat (first | (with_reducible first | exact HK.out | apply xa_.set_ | apply kb_ | apply rb_ | apply jb_) | exact HK.out)⟩
   ·rw [if_neg c6] at H
    exact absurd H (by simp)
  ·rw [if_neg c5] at H
   exact absurd H (by simp)
def na_.f (s0_0 : List Int) (s0_1 : Int) (a1 : Int) : Option (Int × Int) := (lb_.f s0_0 s0_1).bind fun bt161 => ((ab_.f bt161.1 a1).bind fun t163 => (some (t163, bt161.2)))
set_option maxHeartbeats 8000000 in
set_option maxRecDepth 100000 in
theorem na_.calls (g : Nat) (s0_0 : List Int) (s0_1 : Int) (a1 : Int) (r1 : Int) (r2 : Int) (w0 w : World) (hI : ia_ w0 w g s0_0 s0_1) (hB : Below w0.heap.size w0 w) (h : na_.f s0_0 s0_1 a1 = some (r1, r2)) :
  Calls Try.prog 26 #[.pointer (some ⟨g, 0, none⟩), .int .i64 a1] w fun e w' => e = .returned (.int .i64 r1) ∧ ia_ w0 w' g s0_0 r2 ∧ Below w0.heap.size w0 w' ∧ xa_ w w' g none := by
 have HI0 := ba_.mk hI
 have HK := ba_.mk (xa_.refl w g none)
 have HL := ba_.mk hB.size
 clear hI
 have HW0 := ba_.mk hB.size
 have HB := ba_.mk hB
 clear hB
 have H : ((lb_.f s0_0 s0_1).bind fun bt161 => ((ab_.f bt161.1 a1).bind fun t163 => (some (t163, bt161.2)))) = some (r1, r2) := h
 clear h
 replace H := Option.bind_eq_some_iff.mp H
 obtain ⟨⟨t161, t162⟩, A30, H⟩ := H
 replace H : ((ab_.f t161 a1).bind fun t163 => (some (t163, t162))) = some (r1, r2) := H
 have A3 := ba_.mk A30
 clear A30
 replace H := Option.bind_eq_some_iff.mp H
 obtain ⟨t163, A40, H⟩ := H
 replace H : (some (t163, t162)) = some (r1, r2) := H
 have A4 := ba_.mk A40
 clear A40
 simp only [Option.some.injEq, Prod.mk.injEq] at H
 obtain ⟨rfl, rfl⟩ := H
 go_enter Try.func26, Try.ntmps26
 go_wp2_with (first | ((with_reducible refine ua_ (f := 42) rfl ?_); refine hc_ (some 6) rfl rfl Try.func42 (by kernel_rfl) rfl #[.pointer (some ⟨g, 0, none⟩)] rfl (by (try simp only [List.map_toArray, List.map_cons, List.map_nil]); first | done | rfl | (simp only [List.length_drop, List.length_take]; rfl)) ?_; (with_reducible refine (lb_.calls g s0_0 s0_1 t161 t162 w0 _ ?side1 ?side2 A3.out).mono ?_); (case side1 => repeat (first | (with_reducible first | exact HI0.out | apply ia_.alloc | apply ia_.drewN | apply ia_.drew | apply ia_.ic_) | exact HI0.out)); (case side2 => repeat (first | (with_reducible first | exact HB.out | apply fa_ | apply ca_ | apply ga_ | refine qa_ ?_ (ia_.ge HI0.out)) | exact HB.out)); rintro e w5 ⟨rfl, hi, hb, hk⟩; refine ⟨_, rfl, ?_⟩; have n0_ := ba_.mk (xa_.trans (by repeat (first | (with_reducible first | exact HK.out | apply xa_.set_ | apply kb_ | apply rb_ | apply jb_) | exact HK.out)) hk (.inl rfl)); have n1_ := ba_.mk (hb); have n2_ := ba_.mk (hi); clear HK; clear HB; clear HI0; have HK := n0_; have HB := n1_; have HI0 := n2_; clear n0_ n1_ n2_; (try clear hb); (try clear hb2); (try clear hk); (try clear hi)) | ((with_reducible refine ua_ (f := 14) rfl ?_); refine hc_ (some 8) rfl rfl Try.func14 (by kernel_rfl) rfl #[.int .i64 t161, .int .i64 a1] rfl (by (try simp only [List.map_toArray, List.map_cons, List.map_nil]); first | done | rfl | (simp only [List.length_drop, List.length_take]; rfl)) ?_; (with_reducible refine (ab_.calls t161 a1 t163 _ A4.out).mono ?_); rintro e w' ⟨rfl, ⟨nd, rfl⟩⟩; refine ⟨_, rfl, ?_⟩))
 go_ret
 exact ⟨by first | rfl | (simp [bb_, cb_] <;> rfl) | (simp [*, bb_, cb_] <;> rfl), by repeat (first | (with_reducible first | exact HI0.out | apply ia_.alloc | apply ia_.drewN | apply ia_.drew | apply ia_.ic_) | exact HI0.out), by repeat (first | (with_reducible first | exact HB.out | apply fa_ | apply ca_ | apply ga_ | refine qa_ ?_ (ia_.ge HI0.out)) | exact HB.out), by repeat (first | (with_reducible first | exact HK.out | apply xa_.set_ | apply kb_ | apply rb_ | apply jb_) | exact HK.out)⟩
def oa_.f (s0_0 : List Int) (s0_1 : Int) (a1 : Int) (a2 : Int) : Option (Int × Int) := (na_.f s0_0 s0_1 (wrap64 ((wrap64 (a2 - a1)) + 1))).bind fun bt164 => (some (wrap64 (a1 + bt164.1), bt164.2))
set_option maxHeartbeats 8000000 in
set_option maxRecDepth 100000 in
theorem oa_.calls (g : Nat) (s0_0 : List Int) (s0_1 : Int) (a1 : Int) (a2 : Int) (r1 : Int) (r2 : Int) (w0 w : World) (hI : ia_ w0 w g s0_0 s0_1) (hB : Below w0.heap.size w0 w) (h : oa_.f s0_0 s0_1 a1 a2 = some (r1, r2)) :
  Calls Try.prog 31 #[.pointer (some ⟨g, 0, none⟩), .int .i64 a1, .int .i64 a2] w fun e w' => e = .returned (.int .i64 r1) ∧ ia_ w0 w' g s0_0 r2 ∧ Below w0.heap.size w0 w' ∧ xa_ w w' g none := by
 have HI0 := ba_.mk hI
 have HK := ba_.mk (xa_.refl w g none)
 have HL := ba_.mk hB.size
 clear hI
 have HW0 := ba_.mk hB.size
 have HB := ba_.mk hB
 clear hB
 have H : ((na_.f s0_0 s0_1 (wrap64 ((wrap64 (a2 - a1)) + 1))).bind fun bt164 => (some (wrap64 (a1 + bt164.1), bt164.2))) = some (r1, r2) := h
 clear h
 replace H := Option.bind_eq_some_iff.mp H
 obtain ⟨⟨t164, t165⟩, A40, H⟩ := H
 replace H : (some (wrap64 (a1 + t164), t165)) = some (r1, r2) := H
 have A4 := ba_.mk A40
 clear A40
 simp only [Option.some.injEq, Prod.mk.injEq] at H
 obtain ⟨rfl, rfl⟩ := H
 go_enter Try.func31, Try.ntmps31
 go_wp2_with (first | ((with_reducible refine ua_ (f := 26) rfl ?_); refine hc_ (some 13) rfl rfl Try.func26 (by kernel_rfl) rfl #[.pointer (some ⟨g, 0, none⟩), .int .i64 (wrap64 ((wrap64 (a2 - a1)) + 1))] rfl (by (try simp only [List.map_toArray, List.map_cons, List.map_nil]); first | done | rfl | (simp only [List.length_drop, List.length_take]; rfl)) ?_; (with_reducible refine (na_.calls g s0_0 s0_1 (wrap64 ((wrap64 (a2 - a1)) + 1)) t164 t165 w0 _ ?side1 ?side2 A4.out).mono ?_); (case side1 => repeat (first | (with_reducible first | exact HI0.out | apply ia_.alloc | apply ia_.drewN | apply ia_.drew | apply ia_.ic_) | exact HI0.out)); (case side2 => repeat (first | (with_reducible first | exact HB.out | apply fa_ | apply ca_ | apply ga_ | refine qa_ ?_ (ia_.ge HI0.out)) | exact HB.out)); rintro e w5 ⟨rfl, hi, hb, hk⟩; refine ⟨_, rfl, ?_⟩; have n0_ := ba_.mk (xa_.trans (by repeat (first | (with_reducible first | exact HK.out | apply xa_.set_ | apply kb_ | apply rb_ | apply jb_) | exact HK.out)) hk (.inl rfl)); have n1_ := ba_.mk (hb); have n2_ := ba_.mk (hi); clear HK; clear HB; clear HI0; have HK := n0_; have HB := n1_; have HI0 := n2_; clear n0_ n1_ n2_; (try clear hb); (try clear hb2); (try clear hk); (try clear hi)))
 go_ret
 exact ⟨by first | rfl | (simp [bb_, cb_] <;> rfl) | (simp [*, bb_, cb_] <;> rfl), by repeat (first | (with_reducible first | exact HI0.out | apply ia_.alloc | apply ia_.drewN | apply ia_.drew | apply ia_.ic_) | exact HI0.out), by repeat (first | (with_reducible first | exact HB.out | apply fa_ | apply ca_ | apply ga_ | refine qa_ ?_ (ia_.ge HI0.out)) | exact HB.out), by repeat (first | (with_reducible first | exact HK.out | apply xa_.set_ | apply kb_ | apply rb_ | apply jb_) | exact HK.out)⟩
def va_.l0 : Nat → Int → Int → List Int → Int → List Int → Int → Option (List Int × Int)
 | 0, _, _, _, _, _, _ => none
 | k + 1, x2, x3, x9, x10, x1000, x1001 => if x10 > 0 then ((oa_.f x1000 x1001 x2 x3).bind fun bt168 => (if x9.length < 17592186044416 then (va_.l0 k x2 x3 (x9 ++ [bt168.1]) (wrap64 (x10 - 1)) x1000 bt168.2) else (none))) else (some (x9, x1001))
def va_.f (k : Nat) (s0_0 : List Int) (s0_1 : Int) (a1 : Int) (a2 : Int) (a3 : Int) : Option (List Int × Int) := (oa_.f s0_0 s0_1 0 a1).bind fun bt166 => (va_.l0 k a2 a3 ([] : List Int) bt166.1 s0_0 bt166.2)
theorem va_.xc_ : ∀ k, (∀ y0 y1 y2 y3 y4 y5, LeO (va_.l0 k y0 y1 y2 y3 y4 y5) (va_.l0 (k + 1) y0 y1 y2 y3 y4 y5))
 | 0 => fun _ _ _ _ _ _ r h => by simp [va_.l0] at h
 | k + 1 => by
  have ih0 := va_.xc_ k
  ·intro y0 y1 y2 y3 y4 y5
   unfold va_.l0
   repeat' first
   | (with_reducible exact ih0 _ _ _ _ _ _)
   | (with_reducible exact LeO.refl _)
   | (with_reducible exact LeO.none _)
   | (with_reducible refine LeO.ite ?_ ?_)
   | (with_reducible refine LeO.bind ?_ (fun _ => ?_))
   | exact ih0 _ _ _ _ _ _
   | exact LeO.none _
   | refine LeO.ite ?_ ?_
   | refine LeO.bind ?_ (fun _ => ?_)
theorem va_.mono : ∀ a0 a1 a2 a3 a4 k, LeO (va_.f k a0 a1 a2 a3 a4) (va_.f (k + 1) a0 a1 a2 a3 a4) := by
 intro a0 a1 a2 a3 a4 k
 have ih0 := va_.xc_ k
 unfold va_.f
 repeat' first
   | (with_reducible exact ih0 _ _ _ _ _ _)
   | (with_reducible exact LeO.refl _)
   | (with_reducible exact LeO.none _)
   | (with_reducible refine LeO.ite ?_ ?_)
   | (with_reducible refine LeO.bind ?_ (fun _ => ?_))
   | exact ih0 _ _ _ _ _ _
   | exact LeO.none _
   | refine LeO.ite ?_ ?_
   | refine LeO.bind ?_ (fun _ => ?_)
set_option maxHeartbeats 8000000 in
set_option maxRecDepth 100000 in
theorem va_.calls (k : Nat) (g : Nat) (s0_0 : List Int) (s0_1 : Int) (a1 : Int) (a2 : Int) (a3 : Int) (r1 : List Int) (r2 : Int) (w0 w : World) (hI : ia_ w0 w g s0_0 s0_1) (hB : Below w0.heap.size w0 w) (h : va_.f k s0_0 s0_1 a1 a2 a3 = some (r1, r2)) :
  Calls Try.prog 23 #[.pointer (some ⟨g, 0, none⟩), .int .i64 a1, .int .i64 a2, .int .i64 a3] w fun e w' => ∃ v0_ : Value, e = .returned (v0_) ∧ Kd.R (Kd.int .i64) 3 w' w.heap.size (fun _ => True) v0_ r1 ∧ ia_ w0 w' g s0_0 r2 ∧ Below w0.heap.size w0 w' ∧ xa_ w w' g none := by
 have HI0 := ba_.mk hI
 have HK := ba_.mk (xa_.refl w g none)
 have HL := ba_.mk hB.size
 clear hI
 have HW0 := ba_.mk hB.size
 have HB := ba_.mk hB
 clear hB
 have H : ((oa_.f s0_0 s0_1 0 a1).bind fun bt166 => (va_.l0 k a2 a3 ([] : List Int) bt166.1 s0_0 bt166.2)) = some (r1, r2) := h
 clear h
 replace H := Option.bind_eq_some_iff.mp H
 obtain ⟨⟨t166, t167⟩, A50, H⟩ := H
 replace H : (va_.l0 k a2 a3 ([] : List Int) t166 s0_0 t167) = some (r1, r2) := H
 have A5 := ba_.mk A50
 clear A50
 have H' := ba_.mk H
 clear H
 go_enter Try.func23, Try.ntmps23
 go_wp2_with (first | ((with_reducible refine ua_ (f := 31) rfl ?_); refine hc_ (some 13) rfl rfl Try.func31 (by kernel_rfl) rfl #[.pointer (some ⟨g, 0, none⟩), .int .i64 0, .int .i64 a1] rfl (by (try simp only [List.map_toArray, List.map_cons, List.map_nil]); first | done | rfl | (simp only [List.length_drop, List.length_take]; rfl)) ?_; (with_reducible refine (oa_.calls g s0_0 s0_1 0 a1 t166 t167 w0 _ ?side1 ?side2 A5.out).mono ?_); (case side1 => repeat (first | (with_reducible first | exact HI0.out | apply ia_.alloc | apply ia_.drewN | apply ia_.drew | apply ia_.ic_) | exact HI0.out)); (case side2 => repeat (first | (with_reducible first | exact HB.out | apply fa_ | apply ca_ | apply ga_ | refine qa_ ?_ (ia_.ge HI0.out)) | exact HB.out)); rintro e w6 ⟨rfl, hi, hb, hk⟩; refine ⟨_, rfl, ?_⟩; have n0_ := ba_.mk (xa_.trans (by repeat (first | (with_reducible first | exact HK.out | apply xa_.set_ | apply kb_ | apply rb_ | apply jb_) | exact HK.out)) hk (.inl rfl)); have n1_ := ba_.mk (hb); have n2_ := ba_.mk (hi); clear HK; clear HB; clear HI0; have HK := n0_; have HB := n1_; have HI0 := n2_; clear n0_ n1_ n2_; (try clear hb); (try clear hb2); (try clear hk); (try clear hi)))
 go_loopg [9, 10] k (fun kq v9 v10 w' => ∃ (x9_1 : List Int) (x10_1 : Int) (x1001_1 : Int), v10 = .int .i64 x10_1 ∧ ba_ (va_.l0 kq a2 a3 x9_1 x10_1 s0_0 x1001_1 = some (r1, r2)) ∧ ba_ (kq ≤ k) ∧ ba_ (Kd.R (Kd.int .i64) 3 w' w.heap.size (fun _ => True) v9 x9_1) ∧ ba_ (ia_ w0 w' g s0_0 x1001_1) ∧ ba_ (xa_ w w' g none) ∧ ba_ (Below w0.heap.size w0 w'))
 case atStart => exact ⟨(([] : List Int)), (t166), (t167), (by first | rfl | (simp; done) | (simp [*]; done)), H', ⟨Nat.le_refl _⟩, ⟨by first | exact Kd.uf_ _ _ _ _ _ | exact Kd.mh_ _ _ _ _ _ | exact Kd.ph_ _ _ _ _ _ | exact Kd.nh_ _ _ _ _ _ | exact Kd.oh_ _ _ _ _ _⟩, ⟨by repeat (first | (with_reducible first | exact HI0.out | apply ia_.alloc | apply ia_.drewN | apply ia_.drew | apply ia_.ic_) | exact HI0.out)⟩, ⟨by repeat (first | (with_reducible first | exact HK.out | apply xa_.set_ | apply kb_ | apply rb_ | apply jb_) | exact HK.out)⟩, ⟨by repeat (first | (with_reducible first | exact HB.out | apply fa_ | apply ca_ | apply ga_ | refine qa_ ?_ (ia_.ge HI0.out)) | exact HB.out)⟩⟩
 case round =>
  clear H'
  try clear c2
  try clear p2
  try clear c3
  obtain ⟨x9_1, x10_1, x1001_1, rfl, HA, HK1, HO_9, HI0, HK, HB⟩ := hrel
  cases gk with
  | zero => exact absurd HA.out (by simp [va_.l0])
  | succ k1 =>
   have H := HA.out
   clear HA
   simp only [va_.l0] at H
   by_cases c7 : x10_1 > 0
   ·rw [if_pos c7] at H
    have c7b0 : decide (0 < x10_1) = true := decide_eq_true c7
    clear c7
    replace H := Option.bind_eq_some_iff.mp H
    obtain ⟨⟨t168, t169⟩, A80, H⟩ := H
    replace H : (if x9_1.length < 17592186044416 then (va_.l0 k1 a2 a3 (x9_1 ++ [t168]) (wrap64 (x10_1 - 1)) s0_0 t169) else (none)) = some (r1, r2) := H
    have A8 := ba_.mk A80
    clear A80
    by_cases c9 : x9_1.length < 17592186044416
    ·rw [if_pos c9] at H
     have LMc9 := ba_.mk c9
     clear c9
     obtain ⟨y170, hy170⟩ : ∃ y_ : List Int, y_ = (x9_1 ++ [t168]) := ⟨_, rfl⟩
     replace H : (va_.l0 k1 a2 a3 y170 (wrap64 (x10_1 - 1)) s0_0 t169) = some (r1, r2) := by first | (rw [hy170]; with_reducible exact H) | (have H2_ := (Option.bind_some _ _).symm.trans H; rw [hy170]; with_reducible exact H2_) | (have H2_ := (Option.bind_some _ _).symm.trans H; with_reducible exact H2_) | with_reducible exact H | (rw [hy170]; exact H) | exact H
     have Ny170 := ba_.mk hy170
     clear hy170
     have H' := ba_.mk H
     clear H
     go_wp2_with (first | ((with_reducible refine ua_ (f := 31) rfl ?_); refine hc_ (some 22) rfl rfl Try.func31 (by kernel_rfl) rfl #[.pointer (some ⟨g, 0, none⟩), .int .i64 a2, .int .i64 a3] rfl (by (try simp only [List.map_toArray, List.map_cons, List.map_nil]); first | done | rfl | (simp only [List.length_drop, List.length_take]; rfl)) ?_; (with_reducible refine (oa_.calls g s0_0 x1001_1 a2 a3 t168 t169 w0 _ ?side1 ?side2 A8.out).mono ?_); (case side1 => repeat (first | (with_reducible first | exact HI0.out | apply ia_.alloc | apply ia_.drewN | apply ia_.drew | apply ia_.ic_) | exact HI0.out)); (case side2 => repeat (first | (with_reducible first | exact HB.out | apply fa_ | apply ca_ | apply ga_ | refine qa_ ?_ (ia_.ge HI0.out)) | exact HB.out)); rintro e w10 ⟨rfl, hi, hb, hk⟩; refine ⟨_, rfl, ?_⟩; have n0_ := ba_.mk (Kd.bc_ (Kd.ne_ (ia_.apart (show ia_ w0 _ g s0_0 x1001_1 from by repeat (first | (with_reducible first | exact HI0.out | apply ia_.alloc | apply ia_.drewN | apply ia_.drew | apply ia_.ic_) | exact HI0.out)) (by (with_reducible repeat (first | apply Kd.la_ | apply Kd.ka_ | apply Kd.ma_)); exact HO_9.out) (by decide)) hk (fun _ h => h.2)) (fun _ h => h.1)); have n1_ := ba_.mk (xa_.trans (by repeat (first | (with_reducible first | exact HK.out | apply xa_.set_ | apply kb_ | apply rb_ | apply jb_) | exact HK.out)) hk (.inl rfl)); have n2_ := ba_.mk (hb); have n3_ := ba_.mk (hi); clear HO_9; clear HK; clear HB; clear HI0; have HO_9 := n0_; have HK := n1_; have HB := n2_; have HI0 := n3_; clear n0_ n1_ n2_ n3_; (try clear hb); (try clear hb2); (try clear hk); (try clear hi)) | ((with_reducible refine hd_ (b := .append) (xs := #[.tmp 18, .tmp 23]) rfl ?_); at_builtin; refine Kd.qe_ (Kd.int .i64) w.heap.size rfl (.tmp 18) (.tmp 23) 27 3 (.int .i64 0) 8 rfl Try.underlying27 te_ rfl (by decide) (by omega) u9 x9_1 t168 [.int .i64 t168] (fun _ => True) (fun _ => False) rfl rfl ?aP (fun _ hk => hk.elim) ?aF ?aO (Below.refl _ _) ?aS ?aL ?_; (case aP => exact rfl); (case aF => exact (fun _ _ => trivial)); (case aO => exact (by (with_reducible repeat (first | apply Kd.la_ | apply Kd.ka_ | apply Kd.ma_)); exact HO_9.out)); (case aS => exact (we_ (w := w) (g := g) (row := none) (by repeat (first | (with_reducible first | exact HK.out | apply xa_.set_ | apply kb_ | apply rb_ | apply jb_) | exact HK.out)))); (case aL => have := LMc9.out; omega); intro v171 w11 ho hb hg hat; rw [← Ny170.out] at ho; have n0_ := ba_.mk (ia_.grown (by repeat (first | (with_reducible first | exact HI0.out | apply ia_.alloc | apply ia_.drewN | apply ia_.drew | apply ia_.ic_) | exact HI0.out)) hg (ia_.fe_ HI0.out HO_9.out (by decide))); have n1_ := ba_.mk (se_ (by repeat (first | (with_reducible first | exact HB.out | apply fa_ | apply ca_ | apply ga_ | refine qa_ ?_ (ia_.ge HI0.out)) | exact HB.out)) HL.out hb); have n2_ := ba_.mk (xa_.trans (by repeat (first | (with_reducible first | exact HK.out | apply xa_.set_ | apply kb_ | apply rb_ | apply jb_) | exact HK.out)) (xa_.mf_ hg g) (Kd.eh_ HO_9.out)); have n3_ := ba_.mk (ho); clear HI0; clear HB; clear HK; clear HO_9; have HI0 := n0_; have HB := n1_; have HK := n2_; have HO172 := n3_; clear n0_ n1_ n2_ n3_; clear ho hb hg hat))
     go_roundg k1
     case measure => have := HK1.out; omega
     case rel => exact ⟨(y170), (wrap64 (x10_1 - 1)), (t169), (by first | rfl | (simp; done) | (simp [*]; done)), H', ⟨by have := HK1.out; omega⟩, ⟨by (with_reducible repeat (first | apply Kd.la_ | apply Kd.ka_ | apply Kd.ma_)); exact HO172.out⟩, ⟨by repeat (first | (with_reducible first | exact HI0.out | apply ia_.alloc | apply ia_.drewN | apply ia_.drew | apply ia_.ic_) | exact HI0.out)⟩, ⟨by repeat (first | (with_reducible first | exact HK.out | apply xa_.set_ | apply kb_ | apply rb_ | apply jb_) | exact HK.out)⟩, ⟨by repeat (first | (with_reducible first | exact HB.out | apply fa_ | apply ca_ | apply ga_ | refine qa_ ?_ (ia_.ge HI0.out)) | exact HB.out)⟩⟩
    ·rw [if_neg c9] at H
     exact absurd H (by simp)
   ·rw [if_neg c7] at H
    have c7b0 : decide (0 < x10_1) = false := decide_eq_false c7
    clear c7
    simp only [Option.some.injEq, Prod.mk.injEq] at H
    obtain ⟨rfl, rfl⟩ := H
    go_wp2
    go_ret
    exact ⟨_, by first | rfl | (simp [bb_, cb_] <;> rfl) | (simp [*, bb_, cb_] <;> rfl), by (with_reducible repeat (first | apply Kd.la_ | apply Kd.ka_ | apply Kd.ma_)); exact HO_9.out, by repeat (first | (with_reducible first | exact HI0.out | apply ia_.alloc | apply ia_.drewN | apply ia_.drew | apply ia_.ic_) | exact HI0.out), by repeat (first | (with_reducible first | exact HB.out | apply fa_ | apply ca_ | apply ga_ | refine qa_ ?_ (ia_.ge HI0.out)) | exact HB.out), by repeat (first | (with_reducible first | exact HK.out | apply xa_.set_ | apply kb_ | apply rb_ | apply jb_) | exact HK.out)⟩
def xb_.f (s0_0 : List Int) (s0_1 : Int) (a1 : Int) : Option (Bool × Int) := (na_.f s0_0 s0_1 a1).bind fun bt173 => (some ((bt173.1 == (wrap64 (a1 - 1))), bt173.2))
set_option maxHeartbeats 8000000 in
set_option maxRecDepth 100000 in
theorem xb_.calls (g : Nat) (s0_0 : List Int) (s0_1 : Int) (a1 : Int) (r1 : Bool) (r2 : Int) (w0 w : World) (hI : ia_ w0 w g s0_0 s0_1) (hB : Below w0.heap.size w0 w) (h : xb_.f s0_0 s0_1 a1 = some (r1, r2)) :
  Calls Try.prog 24 #[.pointer (some ⟨g, 0, none⟩), .int .i64 a1] w fun e w' => e = .returned (.bool r1) ∧ ia_ w0 w' g s0_0 r2 ∧ Below w0.heap.size w0 w' ∧ xa_ w w' g none := by
 have HI0 := ba_.mk hI
 have HK := ba_.mk (xa_.refl w g none)
 have HL := ba_.mk hB.size
 clear hI
 have HW0 := ba_.mk hB.size
 have HB := ba_.mk hB
 clear hB
 have H : ((na_.f s0_0 s0_1 a1).bind fun bt173 => (some ((bt173.1 == (wrap64 (a1 - 1))), bt173.2))) = some (r1, r2) := h
 clear h
 replace H := Option.bind_eq_some_iff.mp H
 obtain ⟨⟨t173, t174⟩, A30, H⟩ := H
 replace H : (some ((t173 == (wrap64 (a1 - 1))), t174)) = some (r1, r2) := H
 have A3 := ba_.mk A30
 clear A30
 simp only [Option.some.injEq, Prod.mk.injEq] at H
 obtain ⟨rfl, rfl⟩ := H
 go_enter Try.func24, Try.ntmps24
 go_wp2_with (first | ((with_reducible refine ua_ (f := 26) rfl ?_); refine hc_ (some 7) rfl rfl Try.func26 (by kernel_rfl) rfl #[.pointer (some ⟨g, 0, none⟩), .int .i64 a1] rfl (by (try simp only [List.map_toArray, List.map_cons, List.map_nil]); first | done | rfl | (simp only [List.length_drop, List.length_take]; rfl)) ?_; (with_reducible refine (na_.calls g s0_0 s0_1 a1 t173 t174 w0 _ ?side1 ?side2 A3.out).mono ?_); (case side1 => repeat (first | (with_reducible first | exact HI0.out | apply ia_.alloc | apply ia_.drewN | apply ia_.drew | apply ia_.ic_) | exact HI0.out)); (case side2 => repeat (first | (with_reducible first | exact HB.out | apply fa_ | apply ca_ | apply ga_ | refine qa_ ?_ (ia_.ge HI0.out)) | exact HB.out)); rintro e w4 ⟨rfl, hi, hb, hk⟩; refine ⟨_, rfl, ?_⟩; have n0_ := ba_.mk (xa_.trans (by repeat (first | (with_reducible first | exact HK.out | apply xa_.set_ | apply kb_ | apply rb_ | apply jb_) | exact HK.out)) hk (.inl rfl)); have n1_ := ba_.mk (hb); have n2_ := ba_.mk (hi); clear HK; clear HB; clear HI0; have HK := n0_; have HB := n1_; have HI0 := n2_; clear n0_ n1_ n2_; (try clear hb); (try clear hb2); (try clear hk); (try clear hi)))
 go_ret
 exact ⟨by first | rfl | (simp [bb_, cb_] <;> rfl) | (simp [*, bb_, cb_] <;> rfl), by repeat (first | (with_reducible first | exact HI0.out | apply ia_.alloc | apply ia_.drewN | apply ia_.drew | apply ia_.ic_) | exact HI0.out), by repeat (first | (with_reducible first | exact HB.out | apply fa_ | apply ca_ | apply ga_ | refine qa_ ?_ (ia_.ge HI0.out)) | exact HB.out), by repeat (first | (with_reducible first | exact HK.out | apply xa_.set_ | apply kb_ | apply rb_ | apply jb_) | exact HK.out)⟩
def oc_.f (s0_0 : List Int) (s0_1 : Int) (l1 : List Int) : Option (Int × Int) := (na_.f s0_0 s0_1 (l1.length : Int)).bind fun bt175 => (if 0 ≤ bt175.1 then (if bt175.1 < (l1.length : Int) then (some (rd l1 bt175.1, bt175.2)) else (none)) else (none))
set_option maxHeartbeats 8000000 in
set_option maxRecDepth 100000 in
theorem oc_.calls (g : Nat) (s0_0 : List Int) (s0_1 : Int) (A1 : Option Addr) (c1 : Nat) (l1 : List Int) (r1 : Int) (r2 : Int) (w0 w : World) (hI : ia_ w0 w g s0_0 s0_1) (hB : Below w0.heap.size w0 w) (hr1 : Kd.C (Kd.int .i64) w A1 l1.length l1) (hc1 : l1.length ≤ c1) (hf1 : ∀ ad, A1 = some ad → 0 < l1.length → ad.block ≠ g) (h : oc_.f s0_0 s0_1 l1 = some (r1, r2)) :
  Calls Try.prog 25 #[.pointer (some ⟨g, 0, none⟩), .slice A1 l1.length c1] w fun e w' => e = .returned (.int .i64 r1) ∧ ia_ w0 w' g s0_0 r2 ∧ Below w0.heap.size w0 w' ∧ xa_ w w' g none := by
 have HR1 := ba_.mk hr1
 have HC1 := ba_.mk hc1
 clear hr1 hc1
 have HI0 := ba_.mk hI
 have HK := ba_.mk (xa_.refl w g none)
 have HL := ba_.mk hB.size
 clear hI
 have HW0 := ba_.mk hB.size
 have HB := ba_.mk hB
 clear hB
 have H : ((na_.f s0_0 s0_1 (l1.length : Int)).bind fun bt175 => (if 0 ≤ bt175.1 then (if bt175.1 < (l1.length : Int) then (some (rd l1 bt175.1, bt175.2)) else (none)) else (none))) = some (r1, r2) := h
 clear h
 replace H := Option.bind_eq_some_iff.mp H
 obtain ⟨⟨t175, t176⟩, A30, H⟩ := H
 replace H : (if 0 ≤ t175 then (if t175 < (l1.length : Int) then (some (rd l1 t175, t176)) else (none)) else (none)) = some (r1, r2) := H
 have A3 := ba_.mk A30
 clear A30
 by_cases c4 : 0 ≤ t175
 ·rw [if_pos c4] at H
  have c4b0 : decide (0 ≤ t175) = true := decide_eq_true c4
  clear c4
  by_cases c5 : t175 < (l1.length : Int)
  ·rw [if_pos c5] at H
   have c5b0 : decide (t175 < (l1.length : Int)) = true := decide_eq_true c5
   clear c5
   simp only [Option.some.injEq, Prod.mk.injEq] at H
   obtain ⟨rfl, rfl⟩ := H
   go_enter Try.func25, Try.ntmps25
   go_wp2_with (first | ((with_reducible refine ua_ (f := 26) rfl ?_); refine hc_ (some 9) rfl rfl Try.func26 (by kernel_rfl) rfl #[.pointer (some ⟨g, 0, none⟩), .int .i64 (l1.length : Int)] rfl (by (try simp only [List.map_toArray, List.map_cons, List.map_nil]); first | done | rfl | (simp only [List.length_drop, List.length_take]; rfl)) ?_; (with_reducible refine (na_.calls g s0_0 s0_1 (l1.length : Int) t175 t176 w0 _ ?side1 ?side2 A3.out).mono ?_); (case side1 => repeat (first | (with_reducible first | exact HI0.out | apply ia_.alloc | apply ia_.drewN | apply ia_.drew | apply ia_.ic_) | exact HI0.out)); (case side2 => repeat (first | (with_reducible first | exact HB.out | apply fa_ | apply ca_ | apply ga_ | refine qa_ ?_ (ia_.ge HI0.out)) | exact HB.out)); rintro e w6 ⟨rfl, hi, hb, hk⟩; refine ⟨_, rfl, ?_⟩; have n0_ := ba_.mk (xa_.trans (by repeat (first | (with_reducible first | exact HK.out | apply xa_.set_ | apply kb_ | apply rb_ | apply jb_) | exact HK.out)) hk (.inl rfl)); have n1_ := ba_.mk (hb); have n2_ := ba_.mk (hi); clear HK; clear HB; clear HI0; have HK := n0_; have HB := n1_; have HI0 := n2_; clear n0_ n1_ n2_; (try clear hb); (try clear hb2); (try clear hk); (try clear hi); have p177 : 0 ≤ (t175 : Int) := of_decide_eq_true (by first | (with_reducible assumption) | assumption); have q177 : t175 < (l1.length : Int) := of_decide_eq_true (by first | (with_reducible assumption) | assumption); obtain ⟨ad177, e177, hx177_0⟩ := Kd.nd_ HR1.out t175 p177 q177; cases e177; replace hx177_0 := zg_ HK.out hx177_0 (by first | (rw [ae_]; exact hf1 _ rfl (by omega)) | exact hf1 _ rfl (by omega) | exact hf1 ad177 rfl (by omega)); replace p177 := eq_true p177; replace q177 := eq_true q177))
   go_ret
   exact ⟨by first | rfl | (simp [bb_, cb_] <;> rfl) | (simp [*, bb_, cb_] <;> rfl), by repeat (first | (with_reducible first | exact HI0.out | apply ia_.alloc | apply ia_.drewN | apply ia_.drew | apply ia_.ic_) | exact HI0.out), by repeat (first | (with_reducible first | exact HB.out | apply fa_ | apply ca_ | apply ga_ | refine qa_ ?_ (ia_.ge HI0.out)) | exact HB.out), by repeat (first | (with_reducible first | exact HK.out | apply xa_.set_ | apply kb_ | apply rb_ | apply jb_) | exact HK.out)⟩
  ·rw [if_neg c5] at H
   exact absurd H (by simp)
 ·rw [if_neg c4] at H
  exact absurd H (by simp)
end Go.Proofs.Ytpkhgapifnjbeaa.Y
end
section
namespace Go.Proofs.Ytpkhgapifnjbeaa.Y
open Go.RowKit Go.Proofs.Ytpkhgapifnjbeaa.G Go.Proofs.Ytpkhgapifnjbeaa.Rs Go.Proofs.YtpkhgapifnjbeaaW.PrintWords Go.Proofs.YtpkhgapifnjbeaaW.PrintLast Go.Proofs.YtpkhgapifnjbeaaW.PrintMore
attribute [local go_sem] dd_ fd_ rd_ sd_ uc_ vc_ ed_ gd_
set_option linter.unusedVariables false
set_option linter.unusedSimpArgs false
mutual
def ya_.j0 : Nat → List Int → List Int → Bool → List Int → Int → Option (Bool)
 | 0, _, _, _, _, _ => none
 | k + 1, x0, x6, x28, x181000, x181001 => if x28 = true then ((na_.f x181000 x181001 (x6.length : Int)).bind fun bt187 => ((oc_.f x181000 bt187.2 (([(-1), 32, 31] : List Int))).bind fun bt192 => (if 0 ≤ bt187.1 then (if bt187.1 < (x6.length : Int) then (ya_.j1 k x0 (x6.set (bt187.1 : Int).toNat bt192.1)) else (none)) else (none)))) else (ya_.j1 k x0 x6)
def ya_.j1 : Nat → List Int → List Int → Option (Bool)
 | 0, _, _ => none
 | k + 1, x0, x6 => (ge_.f x0).bind fun bt195 => ((pi_.f x0).bind fun bt199 => ((ge_.f x6).bind fun bt203 => ((pi_.f x6).bind fun bt207 => ((aa_.f k bt195.1 bt199.1).bind fun t211 => (if t211 = true then (if bt195.2 = bt199.2 then ((aa_.f k bt203.1 bt207.1).bind fun t212 => (if t212 = true then (if bt203.2 = bt207.2 then ((ha_.f k).bind fun t213 => (some t213)) else (some false)) else (some false))) else (some false)) else (some false))))))
end
def ya_.f (k : Nat) (l0 : List Int) (l1 : List Int) : Option (Bool) := if (l0.length : Int) > 20 then (some true) else ((sb_.f l1).bind fun bt178 => ((va_.f k bt178.1 bt178.2 10 0 31).bind fun bt181 => (if (bt181.1.length : Int) > 0 then ((xb_.f bt178.1 bt181.2 8).bind fun bt185 => (ya_.j0 k l0 bt181.1 bt185.1 bt178.1 bt185.2)) else (ya_.j0 k l0 bt181.1 false bt178.1 bt181.2))))
theorem ya_.xc_ : ∀ k, (∀ y0 y1 y2 y3 y4, LeO (ya_.j0 k y0 y1 y2 y3 y4) (ya_.j0 (k + 1) y0 y1 y2 y3 y4)) ∧ (∀ y0 y1, LeO (ya_.j1 k y0 y1) (ya_.j1 (k + 1) y0 y1))
 | 0 => ⟨fun _ _ _ _ _ r h => by simp [ya_.j0] at h, fun _ _ r h => by simp [ya_.j1] at h⟩
 | k + 1 => by
  obtain ⟨ih0, ih1⟩ := ya_.xc_ k
  refine ⟨?_, ?_⟩
  ·intro y0 y1 y2 y3 y4
   unfold ya_.j0
   repeat' first
   | (with_reducible exact ih0 _ _ _ _ _)
   | (with_reducible exact ih1 _ _)
   | (with_reducible exact ha_.mono _)
   | (with_reducible exact va_.mono _ _ _ _ _ _)
   | (with_reducible exact aa_.mono _ _ _)
   | (with_reducible exact LeO.refl _)
   | (with_reducible exact LeO.none _)
   | (with_reducible refine LeO.ite ?_ ?_)
   | (with_reducible refine LeO.bind ?_ (fun _ => ?_))
   | exact ih0 _ _ _ _ _
   | exact ih1 _ _
   | exact ha_.mono _
   | exact va_.mono _ _ _ _ _ _
   | exact aa_.mono _ _ _
   | exact LeO.none _
   | refine LeO.ite ?_ ?_
   | refine LeO.bind ?_ (fun _ => ?_)
  ·intro y0 y1
   unfold ya_.j1
   repeat' first
   | (with_reducible exact ih0 _ _ _ _ _)
   | (with_reducible exact ih1 _ _)
   | (with_reducible exact ha_.mono _)
   | (with_reducible exact va_.mono _ _ _ _ _ _)
   | (with_reducible exact aa_.mono _ _ _)
   | (with_reducible exact LeO.refl _)
   | (with_reducible exact LeO.none _)
   | (with_reducible refine LeO.ite ?_ ?_)
   | (with_reducible refine LeO.bind ?_ (fun _ => ?_))
   | exact ih0 _ _ _ _ _
   | exact ih1 _ _
   | exact ha_.mono _
   | exact va_.mono _ _ _ _ _ _
   | exact aa_.mono _ _ _
   | exact LeO.none _
   | refine LeO.ite ?_ ?_
   | refine LeO.bind ?_ (fun _ => ?_)
theorem ya_.mono : ∀ a0 a1 k, LeO (ya_.f k a0 a1) (ya_.f (k + 1) a0 a1) := by
 intro a0 a1 k
 obtain ⟨ih0, ih1⟩ := ya_.xc_ k
 unfold ya_.f
 repeat' first
   | (with_reducible exact ih0 _ _ _ _ _)
   | (with_reducible exact ih1 _ _)
   | (with_reducible exact ha_.mono _)
   | (with_reducible exact va_.mono _ _ _ _ _ _)
   | (with_reducible exact aa_.mono _ _ _)
   | (with_reducible exact LeO.refl _)
   | (with_reducible exact LeO.none _)
   | (with_reducible refine LeO.ite ?_ ?_)
   | (with_reducible refine LeO.bind ?_ (fun _ => ?_))
   | exact ih0 _ _ _ _ _
   | exact ih1 _ _
   | exact ha_.mono _
   | exact va_.mono _ _ _ _ _ _
   | exact aa_.mono _ _ _
   | exact LeO.none _
   | refine LeO.ite ?_ ?_
   | refine LeO.bind ?_ (fun _ => ?_)
set_option maxHeartbeats 8000000 in
set_option maxRecDepth 100000 in
theorem ya_.calls (k : Nat) (A0 : Option Addr) (c0 : Nat) (l0 : List Int) (A1 : Option Addr) (c1 : Nat) (l1 : List Int) (r : Bool) (w : World) (hr0 : Kd.C (Kd.int .i64) w A0 l0.length l0) (hc0 : l0.length ≤ c0) (hr1 : Kd.C (Kd.int .i64) w A1 l1.length l1) (hc1 : l1.length ≤ c1) (h : ya_.f k l0 l1 = some r) (hr_ : r = true) :
  Calls Try.prog 6 #[.slice A0 l0.length c0, .slice A1 l1.length c1] w fun e w' => e = .returned (.bool r) ∧ Below w.heap.size w w' := by
 have HRT := ba_.mk hr_
 clear hr_
 have HR0 := ba_.mk hr0
 have HC0 := ba_.mk hc0
 clear hr0 hc0
 have HR1 := ba_.mk hr1
 have HC1 := ba_.mk hc1
 clear hr1 hc1
 have HB := ba_.mk (Below.refl w.heap.size w)
 have H : (if (l0.length : Int) > 20 then (some true) else ((sb_.f l1).bind fun bt178 => ((va_.f k bt178.1 bt178.2 10 0 31).bind fun bt181 => (if (bt181.1.length : Int) > 0 then ((xb_.f bt178.1 bt181.2 8).bind fun bt185 => (ya_.j0 k l0 bt181.1 bt185.1 bt178.1 bt185.2)) else (ya_.j0 k l0 bt181.1 false bt178.1 bt181.2))))) = some r := h
 clear h
 by_cases c3 : (l0.length : Int) > 20
 ·rw [if_pos c3] at H
  have c3b0 : decide (20 < (l0.length : Int)) = true := decide_eq_true c3
  have c3b1 : decide (20 < l0.length) = true := decide_eq_true (by omega)
  clear c3
  obtain rfl := Option.some.inj H
  go_enter Try.func6, Try.ntmps6
  go_wp2
  go_ret
  exact ⟨by first | rfl | (simp [bb_, cb_] <;> rfl) | (simp [*, bb_, cb_] <;> rfl), by repeat (first | (with_reducible first | exact HB.out | apply fa_ | apply ca_ | apply ga_) | exact HB.out)⟩
 ·rw [if_neg c3] at H
  have c3b0 : decide (20 < (l0.length : Int)) = false := decide_eq_false c3
  have c3b1 : decide (20 < l0.length) = false := decide_eq_false (by omega)
  clear c3
  replace H := Option.bind_eq_some_iff.mp H
  obtain ⟨⟨t178, t179⟩, A40, H⟩ := H
  replace H : ((va_.f k t178 t179 10 0 31).bind fun bt181 => (if (bt181.1.length : Int) > 0 then ((xb_.f t178 bt181.2 8).bind fun bt185 => (ya_.j0 k l0 bt181.1 bt185.1 t178 bt185.2)) else (ya_.j0 k l0 bt181.1 false t178 bt181.2))) = some r := H
  have A4 := ba_.mk A40
  clear A40
  replace H := Option.bind_eq_some_iff.mp H
  obtain ⟨⟨t181, t184⟩, A50, H⟩ := H
  replace H : (if (t181.length : Int) > 0 then ((xb_.f t178 t184 8).bind fun bt185 => (ya_.j0 k l0 t181 bt185.1 t178 bt185.2)) else (ya_.j0 k l0 t181 false t178 t184)) = some r := H
  have A5 := ba_.mk A50
  clear A50
  have HC6 := ba_.mk H
  clear H
  go_enter Try.func6, Try.ntmps6
  go_upto_region 5 with (first | ((with_reducible refine ua_ (f := 22) rfl ?_); refine hc_ (some 19) rfl rfl Try.func22 (by kernel_rfl) rfl #[.slice A1 l1.length c1] rfl (by (try simp only [List.map_toArray, List.map_cons, List.map_nil]); first | done | rfl | (simp only [List.length_drop, List.length_take]; rfl)) ?_; (with_reducible refine (sb_.calls _ _ l1 t178 t179 w _ ?side1 ?side2 ?side3 A4.out).mono ?_); (case side1 => repeat (first | (with_reducible first | exact HB.out | apply fa_ | apply ca_ | apply ga_) | exact HB.out)); (case side2 => exact HR1.out); (case side3 => exact HC1.out); rintro e w7 ⟨g180, rfl, hi, hb, hb2⟩; refine ⟨_, rfl, ?_⟩; have n0_ := ba_.mk (hb); have n1_ := ba_.mk (hi); clear HB; have HB := n0_; have HI180 := n1_; clear n0_ n1_; (try clear hb); (try clear hb2); (try clear hk); (try clear hi)) | ((with_reducible refine ua_ (f := 23) rfl ?_); refine hc_ (some 21) rfl rfl Try.func23 (by kernel_rfl) rfl #[.pointer (some ⟨g180, 0, none⟩), .int .i64 10, .int .i64 0, .int .i64 31] rfl (by (try simp only [List.map_toArray, List.map_cons, List.map_nil]); first | done | rfl | (simp only [List.length_drop, List.length_take]; rfl)) ?_; (with_reducible refine (va_.calls k g180 t178 t179 10 0 31 t181 t184 w _ ?side1 ?side2 A5.out).mono ?_); (case side1 => repeat (first | (with_reducible first | exact HI180.out | apply ia_.alloc | apply ia_.drewN | apply ia_.drew | apply ia_.ic_) | exact HI180.out)); (case side2 => repeat (first | (with_reducible first | exact HB.out | apply fa_ | apply ca_ | apply ga_ | refine qa_ ?_ (ia_.ge HI180.out)) | exact HB.out)); rintro e w8 ⟨v182, rfl, ho0, hi, hb, hk⟩; refine ⟨_, rfl, ?_⟩; have n0_ := ba_.mk (Kd.wc_ ho0 (eb_ (by repeat (first | (with_reducible first | exact HB.out | apply fa_ | apply ca_ | apply ga_ | refine qa_ ?_ (ia_.ge HI180.out)) | exact HB.out)))); have n1_ := ba_.mk (hb); have n2_ := ba_.mk (hi); clear HB; clear HI180; have HO183 := n0_; have HB := n1_; have HI180 := n2_; clear n0_ n1_ n2_; (try clear hb); (try clear hb2); (try clear hk); (try clear hi); (try clear ho0)))
  (try simp only [Act.put, List.setIfInBounds_toArray, List.set_cons_zero, List.set_cons_succ])
  go_cut [28] (fun v28 wc => ∃ (kq : Nat) (x28_5 : Bool) (x181001_5 : Int), v28 = .bool x28_5 ∧ ba_ (ya_.j0 kq l0 t181 x28_5 t178 x181001_5 = some r) ∧ ba_ (kq ≤ k) ∧ ba_ (Kd.R (Kd.int .i64) 3 wc w.heap.size (fun _ => True) v182 t181) ∧ ba_ (ia_ w wc g180 t178 x181001_5) ∧ ba_ (Below w.heap.size w wc))
  case first =>
   have H := HC6.out
   clear HC6
   by_cases c9 : (t181.length : Int) > 0
   ·rw [if_pos c9] at H
    have c9b0 : decide (0 < (t181.length : Int)) = true := decide_eq_true c9
    have c9b1 : decide (0 < t181.length) = true := decide_eq_true (by omega)
    clear c9
    (first | rw [c9b0] | (simp only [gc_, lc_]; rw [c9b0]) | skip)
    replace H := Option.bind_eq_some_iff.mp H
    obtain ⟨⟨t185, t186⟩, A100, H⟩ := H
    replace H : (ya_.j0 k l0 t181 t185 t178 t186) = some r := H
    have A10 := ba_.mk A100
    clear A100
    have H' := ba_.mk H
    clear H
    obtain ⟨Ao11, co11, eo11⟩ := Kd.fc_ HO183.out
    subst eo11
    go_wp2_with (first | (go_at_call 24; (with_reducible refine (xb_.calls g180 t178 t184 8 t185 t186 w _ ?side1 ?side2 A10.out).mono ?_); (case side1 => repeat (first | (with_reducible first | exact HI180.out | apply ia_.alloc | apply ia_.drewN | apply ia_.drew | apply ia_.ic_) | exact HI180.out)); (case side2 => repeat (first | (with_reducible first | exact HB.out | apply fa_ | apply ca_ | apply ga_ | refine qa_ ?_ (ia_.ge HI180.out)) | exact HB.out)); rintro e w12 ⟨rfl, hi, hb, hk⟩; have n0_ := ba_.mk (Kd.bc_ (Kd.ne_ (ia_.apart (show ia_ w _ g180 t178 t184 from by repeat (first | (with_reducible first | exact HI180.out | apply ia_.alloc | apply ia_.drewN | apply ia_.drew | apply ia_.ic_) | exact HI180.out)) (by (with_reducible repeat (first | apply Kd.la_ | apply Kd.ka_ | apply Kd.ma_)); exact HO183.out) (by decide)) hk (fun _ h => h.2)) (fun _ h => h.1)); have n1_ := ba_.mk (hb); have n2_ := ba_.mk (hi); clear HO183; clear HB; clear HI180; have HO183 := n0_; have HB := n1_; have HI180 := n2_; clear n0_ n1_ n2_; (try clear hb); (try clear hb2); (try clear hk); (try clear hi)))
    go_meet
    case rel => exact ⟨_, (t185), (t186), (by first | rfl | (simp; done) | (simp [*]; done)), H', ⟨by first | omega | exact Nat.le_refl _⟩, ⟨by (with_reducible repeat (first | apply Kd.la_ | apply Kd.ka_ | apply Kd.ma_)); exact HO183.out⟩, ⟨by repeat (first | (with_reducible first | exact HI180.out | apply ia_.alloc | apply ia_.drewN | apply ia_.drew | apply ia_.ic_) | exact HI180.out)⟩, ⟨by repeat (first | (with_reducible first | exact HB.out | apply fa_ | apply ca_ | apply ga_ | refine qa_ ?_ (ia_.ge HI180.out)) | exact HB.out)⟩⟩
   ·rw [if_neg c9] at H
    have c9b0 : decide (0 < (t181.length : Int)) = false := decide_eq_false c9
    have c9b1 : decide (0 < t181.length) = false := decide_eq_false (by omega)
    clear c9
    (first | rw [c9b0] | (simp only [gc_, lc_]; rw [c9b0]) | skip)
    have H' := ba_.mk H
    clear H
    obtain ⟨Ao13, co13, eo13⟩ := Kd.fc_ HO183.out
    subst eo13
    go_wp2
    go_meet
    case rel => exact ⟨_, (false), (t184), (by first | rfl | (simp; done) | (simp [*]; done)), H', ⟨by first | omega | exact Nat.le_refl _⟩, ⟨by (with_reducible repeat (first | apply Kd.la_ | apply Kd.ka_ | apply Kd.ma_)); exact HO183.out⟩, ⟨by repeat (first | (with_reducible first | exact HI180.out | apply ia_.alloc | apply ia_.drewN | apply ia_.drew | apply ia_.ic_) | exact HI180.out)⟩, ⟨by repeat (first | (with_reducible first | exact HB.out | apply fa_ | apply ca_ | apply ga_ | refine qa_ ?_ (ia_.ge HI180.out)) | exact HB.out)⟩⟩
  case rest =>
   clear HC6
   try clear c1
   try clear c2
   try clear p2
   try clear c3
   try clear c3b0
   try clear c3b1
   try clear c6
   try clear c9
   try clear c9b0
   try clear c9b1
   obtain ⟨kq, x28_5, x181001_5, rfl, HA, HJ5, HO_6, HI180, HB⟩ := hcut
   cases kq with
   | zero => exact absurd HA.out (by simp [ya_.j0])
   | succ kj5 =>
    have H := HA.out
    clear HA
    simp only [ya_.j0] at H
    have HC14 := ba_.mk H
    clear H
    go_upto_if 28 with (fail)
    go_cut [] (fun wc => ∃ (kq : Nat) (x6_13 : List Int), ba_ (ya_.j1 kq l0 x6_13 = some r) ∧ ba_ (kq ≤ kj5) ∧ ba_ (Kd.R (Kd.int .i64) 3 wc w.heap.size (fun _ => True) v182 x6_13) ∧ ba_ (Below w.heap.size w wc))
    case first =>
     have H := HC14.out
     clear HC14
     by_cases c15 : x28_5 = true
     ·subst c15
      have H1 : ((na_.f t178 x181001_5 (t181.length : Int)).bind fun bt187 => ((oc_.f t178 bt187.2 (([(-1), 32, 31] : List Int))).bind fun bt192 => (if 0 ≤ bt187.1 then (if bt187.1 < (t181.length : Int) then (ya_.j1 kj5 l0 (t181.set (bt187.1 : Int).toNat bt192.1)) else (none)) else (none)))) = some r := by rw [if_pos rfl] at H; exact H
      clear H
      have H := H1
      clear H1
      replace H := Option.bind_eq_some_iff.mp H
      obtain ⟨⟨t187, t188⟩, A160, H⟩ := H
      replace H : ((oc_.f t178 t188 (([(-1), 32, 31] : List Int))).bind fun bt192 => (if 0 ≤ t187 then (if t187 < (t181.length : Int) then (ya_.j1 kj5 l0 (t181.set (t187 : Int).toNat bt192.1)) else (none)) else (none))) = some r := H
      have A16 := ba_.mk A160
      clear A160
      obtain ⟨y189, hy189⟩ : ∃ y_ : List Int, y_ = (([(-1), 32, 31] : List Int)) := ⟨_, rfl⟩
      replace H : ((oc_.f t178 t188 y189).bind fun bt192 => (if 0 ≤ t187 then (if t187 < (t181.length : Int) then (ya_.j1 kj5 l0 (t181.set (t187 : Int).toNat bt192.1)) else (none)) else (none))) = some r := by first | (rw [hy189]; with_reducible exact H) | (have H2_ := (Option.bind_some _ _).symm.trans H; rw [hy189]; with_reducible exact H2_) | (have H2_ := (Option.bind_some _ _).symm.trans H; with_reducible exact H2_) | with_reducible exact H | (rw [hy189]; exact H) | exact H
      have Ny189 := ba_.mk hy189
      clear hy189
      replace H := Option.bind_eq_some_iff.mp H
      obtain ⟨⟨t192, t193⟩, A170, H⟩ := H
      replace H : (if 0 ≤ t187 then (if t187 < (t181.length : Int) then (ya_.j1 kj5 l0 (t181.set (t187 : Int).toNat t192)) else (none)) else (none)) = some r := H
      have A17 := ba_.mk A170
      clear A170
      by_cases c18 : 0 ≤ t187
      ·rw [if_pos c18] at H
       have c18b0 : decide (0 ≤ t187) = true := decide_eq_true c18
       clear c18
       (first | rw [c18b0] | (simp only [gc_, lc_]; rw [c18b0]) | skip)
       by_cases c19 : t187 < (t181.length : Int)
       ·rw [if_pos c19] at H
        have c19b0 : decide (t187 < (t181.length : Int)) = true := decide_eq_true c19
        clear c19
        obtain ⟨y194, hy194⟩ : ∃ y_ : List Int, y_ = (t181.set (t187 : Int).toNat t192) := ⟨_, rfl⟩
        replace H : (ya_.j1 kj5 l0 y194) = some r := by first | (rw [hy194]; with_reducible exact H) | (have H2_ := (Option.bind_some _ _).symm.trans H; rw [hy194]; with_reducible exact H2_) | (have H2_ := (Option.bind_some _ _).symm.trans H; with_reducible exact H2_) | with_reducible exact H | (rw [hy194]; exact H) | exact H
        have Ny194 := ba_.mk hy194
        clear hy194
        have H' := ba_.mk H
        clear H
        obtain ⟨Ao21, co21, eo21⟩ := Kd.fc_ HO_6.out
        subst eo21
        go_wp2_with (first | ((with_reducible refine ua_ (f := 26) rfl ?_); refine hc_ (some 33) rfl rfl Try.func26 (by kernel_rfl) rfl #[.pointer (some ⟨g180, 0, none⟩), .int .i64 (t181.length : Int)] rfl (by (try simp only [List.map_toArray, List.map_cons, List.map_nil]); first | done | rfl | (simp only [List.length_drop, List.length_take]; rfl)) ?_; (with_reducible refine (na_.calls g180 t178 x181001_5 (t181.length : Int) t187 t188 w _ ?side1 ?side2 A16.out).mono ?_); (case side1 => repeat (first | (with_reducible first | exact HI180.out | apply ia_.alloc | apply ia_.drewN | apply ia_.drew | apply ia_.ic_) | exact HI180.out)); (case side2 => repeat (first | (with_reducible first | exact HB.out | apply fa_ | apply ca_ | apply ga_ | refine qa_ ?_ (ia_.ge HI180.out)) | exact HB.out)); rintro e w22 ⟨rfl, hi, hb, hk⟩; refine ⟨_, rfl, ?_⟩; have n0_ := ba_.mk (Kd.bc_ (Kd.ne_ (ia_.apart (show ia_ w _ g180 t178 x181001_5 from by repeat (first | (with_reducible first | exact HI180.out | apply ia_.alloc | apply ia_.drewN | apply ia_.drew | apply ia_.ic_) | exact HI180.out)) (by (with_reducible repeat (first | apply Kd.la_ | apply Kd.ka_ | apply Kd.ma_)); exact HO_6.out) (by decide)) hk (fun _ h => h.2)) (fun _ h => h.1)); have n1_ := ba_.mk (hb); have n2_ := ba_.mk (hi); clear HO_6; clear HB; clear HI180; have HO_6 := n0_; have HB := n1_; have HI180 := n2_; clear n0_ n1_ n2_; (try clear hb); (try clear hb2); (try clear hk); (try clear hi)) | ((with_reducible refine yd_ (N := 35) rfl ?_); refine Kd.ri_ (Kd.int .i64) _ 3 ?hg (N := 35) ?hd (xs := ([(-1), 32, 31] : List Int)) (inner := [.int .i64 (-1), .int .i64 32, .int .i64 31]) (ok := fun _ => True) (okp := fun _ => True) ?hr ?hp (fun _ hk => hk) trivial (Below.refl _ _) (Nat.le_refl _) (by simp) ?_; (case hd => rfl); (case hg => rfl); (case hr => first | (go_simp; done) | (go_simp; rfl)); (case hp => exact (Reps.one (show Kd.M (Kd.int .i64) _ _ _ (-1) [.int .i64 (-1)] from rfl) (Reps.one (show Kd.M (Kd.int .i64) _ _ _ 32 [.int .i64 32] from rfl) (Reps.one (show Kd.M (Kd.int .i64) _ _ _ 31 [.int .i64 31] from rfl) (Reps.none _ _))))); intro v190 w23 ho24 hb hg_ hnew_; clear hg_ hnew_; (first | rw [← Ny189.out] at ho24 | (simp only [Int.reduceToNat] at ho24; rw [← Ny189.out] at ho24)); have n0_ := ba_.mk (Kd.wb_ (by (with_reducible repeat (first | apply Kd.la_ | apply Kd.ka_ | apply Kd.ma_)); exact HO_6.out) (Kd.rc_ ho24) hb); have n1_ := ba_.mk (Kd.wc_ (Kd.qc_ ho24 (Kd.R_lt (by (with_reducible repeat (first | apply Kd.la_ | apply Kd.ka_ | apply Kd.ma_)); exact HO_6.out))) (eb_ (by repeat (first | (with_reducible first | exact HB.out | apply fa_ | apply ca_ | apply ga_ | refine qa_ ?_ (ia_.ge HI180.out)) | exact HB.out)))); have n2_ := ba_.mk (ia_.below (by repeat (first | (with_reducible first | exact HI180.out | apply ia_.alloc | apply ia_.drewN | apply ia_.drew | apply ia_.ic_) | exact HI180.out)) hb); have n3_ := ba_.mk (gb_ (by repeat (first | (with_reducible first | exact HB.out | apply fa_ | apply ca_ | apply ga_ | refine qa_ ?_ (ia_.ge HI180.out)) | exact HB.out)) hb); clear HO_6; clear HI180; clear HB; have HO_6 := n0_; have HO191 := n1_; have HI180 := n2_; have HB := n3_; clear n0_ n1_ n2_ n3_; clear hb ho24; obtain ⟨Ao25, co25, eo25⟩ := Kd.fc_ HO191.out; subst eo25) | ((with_reducible refine ua_ (f := 25) rfl ?_); refine hc_ (some 36) rfl rfl Try.func25 (by kernel_rfl) rfl #[.pointer (some ⟨g180, 0, none⟩), .slice Ao25 y189.length co25] rfl (by (try simp only [List.map_toArray, List.map_cons, List.map_nil]); first | done | rfl | (simp only [List.length_drop, List.length_take]; rfl)) ?_; (with_reducible refine (oc_.calls g180 t178 t188 _ _ y189 t192 t193 w _ ?side1 ?side2 ?side3 ?side4 ?side5 A17.out).mono ?_); (case side1 => repeat (first | (with_reducible first | exact HI180.out | apply ia_.alloc | apply ia_.drewN | apply ia_.drew | apply ia_.ic_) | exact HI180.out)); (case side2 => repeat (first | (with_reducible first | exact HB.out | apply fa_ | apply ca_ | apply ga_ | refine qa_ ?_ (ia_.ge HI180.out)) | exact HB.out)); (case side3 => repeat (first | exact (Kd.ta_ HO191.out).2.2 | (with_reducible refine Kd.yb_ ?_ _) | (with_reducible refine Kd.zb_ ?_ _) | (with_reducible refine Kd.jc_ ?_))); (case side4 => exact (Kd.ta_ HO191.out).2.1); (case side5 => exact bt_ (ia_.fe_ HI180.out HO191.out (by decide))); rintro e w26 ⟨rfl, hi, hb, hk⟩; refine ⟨_, rfl, ?_⟩; have n0_ := ba_.mk (Kd.bc_ (Kd.ne_ (ia_.apart (show ia_ w _ g180 t178 t188 from by repeat (first | (with_reducible first | exact HI180.out | apply ia_.alloc | apply ia_.drewN | apply ia_.drew | apply ia_.ic_) | exact HI180.out)) (by (with_reducible repeat (first | apply Kd.la_ | apply Kd.ka_ | apply Kd.ma_)); exact HO_6.out) (by decide)) hk (fun _ h => h.2)) (fun _ h => h.1)); have n1_ := ba_.mk (Kd.bc_ (Kd.ne_ (ia_.apart (show ia_ w _ g180 t178 t188 from by repeat (first | (with_reducible first | exact HI180.out | apply ia_.alloc | apply ia_.drewN | apply ia_.drew | apply ia_.ic_) | exact HI180.out)) (by (with_reducible repeat (first | apply Kd.la_ | apply Kd.ka_ | apply Kd.ma_)); exact HO191.out) (by decide)) hk (fun _ h => h.2)) (fun _ h => h.1)); have n2_ := ba_.mk (hb); have n3_ := ba_.mk (hi); clear HO_6; clear HO191; clear HB; clear HI180; have HO_6 := n0_; have HO191 := n1_; have HB := n2_; have HI180 := n3_; clear n0_ n1_ n2_ n3_; (try clear hb); (try clear hb2); (try clear hk); (try clear hi); have p20 : 0 ≤ (t187 : Int) := of_decide_eq_true (by first | (with_reducible assumption) | assumption); have q20 : (t187 : Int) < ((t181.length : Int) : Int) := of_decide_eq_true (by first | (with_reducible assumption) | assumption); obtain ⟨go20, co20, eo20, gb20, gl20, cl20, HG20⟩ := Kd.yg_ HO_6.out (by omega); (first | cases eo20 | (injection eo20 with ea_ en_ ec_; (first | subst ea_ | (injection ea_ with ea_; subst ea_)); subst ec_; clear en_)); have GB20 := ba_.mk gb20; have GG20 := ba_.mk HG20; clear gb20 gl20 HG20; obtain ⟨hx20_0, hf20_0⟩ := Kd.of_ 0 HO_6.out (t187 : Int) p20 q20; replace p20 := eq_true p20; replace q20 := eq_true q20; have n_ := ba_.mk (Kd.bc_ (ok' := (fun k_ => some k_ ≠ (.slice Ao25 y189.length co25 : Value).ownBlock)) HO_6.out (fun k_ hk => hk.2)); clear HO_6; have HO_6 := n_; clear n_; obtain ⟨hy27_, hz27_⟩ := Kd.of_ 0 HO_6.out (t187 : Int) (of_decide_eq_true (by first | (with_reducible assumption) | assumption)) (of_decide_eq_true (by first | (with_reducible assumption) | assumption)); have HP27 := Kd.am_ HO_6.out (t187 : Int) t192) | ((with_reducible refine ch_ (t := 3) (p := 37) rfl ?_); refine mg_ (t := 3) (p := 37) (v := ?vo_w28) (w1 := (w26.setCell ⟨go20, (t187 : Int).toNat, none⟩ (.int .i64 t192))) ?hg ?ho ?hn ?hr ?_; (case ho => rfl); (case hg => rfl); (case hn => rfl); (case hr => first | (go_simp; done) | (go_simp; rfl)); intro w28 hw; have hg : w26.grownBy w28 (some go20) := (by rw [hw]; exact HP27.2); have hp_ : Kd.R (Kd.int .i64) 3 w28 w.heap.size (fun k_ => some k_ ≠ (.slice Ao25 y189.length co25 : Value).ownBlock) (.slice (some ⟨go20, 0, none⟩) t181.length co21) y194 := (by rw [hw, Ny194.out]; exact HP27.1); clear HP27; have n0_ := ba_.mk (hp_); have n1_ := ba_.mk (ia_.grown (by repeat (first | (with_reducible first | exact HI180.out | apply ia_.alloc | apply ia_.drewN | apply ia_.drew | apply ia_.ic_) | exact HI180.out)) hg (ia_.fe_ HI180.out HO_6.out (by decide))); have n2_ := ba_.mk (Kd.wd_ (v := (.slice (some ⟨go20, 0, none⟩) t181.length co21)) (v1 := (.slice (some ⟨go20, 0, none⟩) t181.length co21)) (ok := (fun _ => True)) (by (with_reducible repeat (first | apply Kd.la_ | apply Kd.ka_ | apply Kd.ma_)); exact HO191.out) hg (.inl rfl)); have n3_ := ba_.mk ((by rw [hw]; exact qa_ (HB.out) GB20.out : Below w.heap.size w w28)); clear HO_6; clear HI180; clear HO191; clear HB; have HO_6 := n0_; have HI180 := n1_; have HO191 := n2_; have HB := n3_; clear n0_ n1_ n2_ n3_; clear hg hw hp_))
        go_meet
        case rel => exact ⟨_, (y194), H', ⟨by have := HJ5.out; first | omega | exact Nat.le_refl _⟩, ⟨by (with_reducible repeat (first | apply Kd.la_ | apply Kd.ka_ | apply Kd.ma_)); exact Kd.bc_ HO_6.out (fun _ hk => trivial)⟩, ⟨by repeat (first | (with_reducible first | exact HB.out | apply fa_ | apply ca_ | apply ga_ | refine qa_ ?_ (ia_.ge HI180.out)) | exact HB.out)⟩⟩
       ·rw [if_neg c19] at H
        exact absurd H (by simp)
      ·rw [if_neg c18] at H
       exact absurd H (by simp)
     ·replace c15 := Bool.eq_false_iff.mpr c15
      subst c15
      have H1 : (ya_.j1 kj5 l0 t181) = some r := by rw [if_neg (show ¬ (false = true) by decide)] at H; exact H
      clear H
      have H := H1
      clear H1
      have H' := ba_.mk H
      clear H
      go_wp2
      go_meet
      case rel => exact ⟨_, (t181), H', ⟨by have := HJ5.out; first | omega | exact Nat.le_refl _⟩, ⟨by (with_reducible repeat (first | apply Kd.la_ | apply Kd.ka_ | apply Kd.ma_)); exact HO_6.out⟩, ⟨by repeat (first | (with_reducible first | exact HB.out | apply fa_ | apply ca_ | apply ga_ | refine qa_ ?_ (ia_.ge HI180.out)) | exact HB.out)⟩⟩
    case rest =>
     clear HC14
     try clear c1
     try clear c2
     try clear p2
     try clear q2
     try clear hx2
     try clear hf2
     try clear c3
     try clear c3b0
     try clear c3b1
     try clear c6
     try clear c9
     try clear c9b0
     try clear c9b1
     try clear c15
     try clear c18
     try clear c18b0
     try clear c19
     try clear c19b0
     try clear p20
     try clear q20
     try clear hx20
     try clear hf20
     try clear c22
     try clear c23
     try clear c25
     try clear c26
     try clear hx20_0
     try clear p2
     try clear p20
     try clear q20
     obtain ⟨kq, x6_13, HA, HJ13, HO_6, HB⟩ := hcut
     cases kq with
     | zero => exact absurd HA.out (by simp [ya_.j1])
     | succ kj13 =>
      have H := HA.out
      clear HA
      simp only [ya_.j1] at H
      replace H := Option.bind_eq_some_iff.mp H
      obtain ⟨⟨t195, t196⟩, A290, H⟩ := H
      replace H : ((pi_.f l0).bind fun bt199 => ((ge_.f x6_13).bind fun bt203 => ((pi_.f x6_13).bind fun bt207 => ((aa_.f kj13 t195 bt199.1).bind fun t211 => (if t211 = true then (if t196 = bt199.2 then ((aa_.f kj13 bt203.1 bt207.1).bind fun t212 => (if t212 = true then (if bt203.2 = bt207.2 then ((ha_.f kj13).bind fun t213 => (some t213)) else (some false)) else (some false))) else (some false)) else (some false)))))) = some r := H
      have A29 := ba_.mk A290
      clear A290
      replace H := Option.bind_eq_some_iff.mp H
      obtain ⟨⟨t199, t200⟩, A300, H⟩ := H
      replace H : ((ge_.f x6_13).bind fun bt203 => ((pi_.f x6_13).bind fun bt207 => ((aa_.f kj13 t195 t199).bind fun t211 => (if t211 = true then (if t196 = t200 then ((aa_.f kj13 bt203.1 bt207.1).bind fun t212 => (if t212 = true then (if bt203.2 = bt207.2 then ((ha_.f kj13).bind fun t213 => (some t213)) else (some false)) else (some false))) else (some false)) else (some false))))) = some r := H
      have A30 := ba_.mk A300
      clear A300
      replace H := Option.bind_eq_some_iff.mp H
      obtain ⟨⟨t203, t204⟩, A310, H⟩ := H
      replace H : ((pi_.f x6_13).bind fun bt207 => ((aa_.f kj13 t195 t199).bind fun t211 => (if t211 = true then (if t196 = t200 then ((aa_.f kj13 t203 bt207.1).bind fun t212 => (if t212 = true then (if t204 = bt207.2 then ((ha_.f kj13).bind fun t213 => (some t213)) else (some false)) else (some false))) else (some false)) else (some false)))) = some r := H
      have A31 := ba_.mk A310
      clear A310
      replace H := Option.bind_eq_some_iff.mp H
      obtain ⟨⟨t207, t208⟩, A320, H⟩ := H
      replace H : ((aa_.f kj13 t195 t199).bind fun t211 => (if t211 = true then (if t196 = t200 then ((aa_.f kj13 t203 t207).bind fun t212 => (if t212 = true then (if t204 = t208 then ((ha_.f kj13).bind fun t213 => (some t213)) else (some false)) else (some false))) else (some false)) else (some false))) = some r := H
      have A32 := ba_.mk A320
      clear A320
      replace H := Option.bind_eq_some_iff.mp H
      obtain ⟨t211, A330, H⟩ := H
      replace H : (if t211 = true then (if t196 = t200 then ((aa_.f kj13 t203 t207).bind fun t212 => (if t212 = true then (if t204 = t208 then ((ha_.f kj13).bind fun t213 => (some t213)) else (some false)) else (some false))) else (some false)) else (some false)) = some r := H
      have A33 := ba_.mk A330
      clear A330
      by_cases c34 : t211 = true
      ·subst c34
       have H1 : (if t196 = t200 then ((aa_.f kj13 t203 t207).bind fun t212 => (if t212 = true then (if t204 = t208 then ((ha_.f kj13).bind fun t213 => (some t213)) else (some false)) else (some false))) else (some false)) = some r := by rw [if_pos rfl] at H; exact H
       clear H
       have H := H1
       clear H1
       by_cases c35 : t196 = t200
       ·rw [if_pos c35] at H
        have c35b0 : (t196 == t200) = true := beq_iff_eq.mpr c35
        have c35b1 : (t196 != t200) = false := bne_eq_false_iff_eq.mpr c35
        clear c35
        replace H := Option.bind_eq_some_iff.mp H
        obtain ⟨t212, A360, H⟩ := H
        replace H : (if t212 = true then (if t204 = t208 then ((ha_.f kj13).bind fun t213 => (some t213)) else (some false)) else (some false)) = some r := H
        have A36 := ba_.mk A360
        clear A360
        by_cases c37 : t212 = true
        ·subst c37
         have H1 : (if t204 = t208 then ((ha_.f kj13).bind fun t213 => (some t213)) else (some false)) = some r := by rw [if_pos rfl] at H; exact H
         clear H
         have H := H1
         clear H1
         by_cases c38 : t204 = t208
         ·rw [if_pos c38] at H
          have c38b0 : (t204 == t208) = true := beq_iff_eq.mpr c38
          have c38b1 : (t204 != t208) = false := bne_eq_false_iff_eq.mpr c38
          clear c38
          replace H := Option.bind_eq_some_iff.mp H
          obtain ⟨t213, A390, H⟩ := H
          replace H : (some t213) = some r := H
          have A39 := ba_.mk A390
          clear A390
          obtain rfl := Option.some.inj H
          go_wp2_with (first | ((with_reducible refine ua_ (f := 27) rfl ?_); refine hc_ (some 40) rfl rfl Try.func27 (by kernel_rfl) rfl #[.slice A0 l0.length c0] rfl (by (try simp only [List.map_toArray, List.map_cons, List.map_nil]); first | done | rfl | (simp only [List.length_drop, List.length_take]; rfl)) ?_; (with_reducible refine (ge_.calls _ _ l0 t195 t196 _ ?side1 ?side2 A29.out).mono ?_); (case side1 => repeat (first | exact (Kd.ie_ HR0.out HB.out) | (with_reducible refine Kd.yb_ ?_ _) | (with_reducible refine Kd.zb_ ?_ _) | (with_reducible refine Kd.jc_ ?_))); (case side2 => exact HC0.out); rintro e w40 ⟨v197, rfl, ho0, hb⟩; refine ⟨_, rfl, ?_⟩; have n0_ := ba_.mk (Kd.wb_ (by (with_reducible repeat (first | apply Kd.la_ | apply Kd.ka_ | apply Kd.ma_)); exact HO_6.out) (Kd.rc_ ho0) hb); have n1_ := ba_.mk (Kd.wc_ (Kd.qc_ ho0 (Kd.R_lt (by (with_reducible repeat (first | apply Kd.la_ | apply Kd.ka_ | apply Kd.ma_)); exact HO_6.out))) (eb_ (by repeat (first | (with_reducible first | exact HB.out | apply fa_ | apply ca_ | apply ga_) | exact HB.out)))); have n2_ := ba_.mk (gb_ (by repeat (first | (with_reducible first | exact HB.out | apply fa_ | apply ca_ | apply ga_) | exact HB.out)) hb); clear HO_6; clear HB; have HO_6 := n0_; have HO198 := n1_; have HB := n2_; clear n0_ n1_ n2_; (try clear hb); (try clear hb2); (try clear hk); (try clear hi); (try clear ho0)) | ((with_reducible refine ua_ (f := 28) rfl ?_); refine hc_ (some 45) rfl rfl Try.func28 (by kernel_rfl) rfl #[.slice A0 l0.length c0] rfl (by (try simp only [List.map_toArray, List.map_cons, List.map_nil]); first | done | rfl | (simp only [List.length_drop, List.length_take]; rfl)) ?_; (with_reducible refine (pi_.calls _ _ l0 t199 t200 _ ?side1 ?side2 A30.out).mono ?_); (case side1 => repeat (first | exact (Kd.ie_ HR0.out HB.out) | (with_reducible refine Kd.yb_ ?_ _) | (with_reducible refine Kd.zb_ ?_ _) | (with_reducible refine Kd.jc_ ?_))); (case side2 => exact HC0.out); rintro e w41 ⟨v201, rfl, ho0, hb⟩; refine ⟨_, rfl, ?_⟩; have n0_ := ba_.mk (Kd.wb_ (by (with_reducible repeat (first | apply Kd.la_ | apply Kd.ka_ | apply Kd.ma_)); exact HO_6.out) (Kd.rc_ ho0) hb); have n1_ := ba_.mk (Kd.wb_ (by (with_reducible repeat (first | apply Kd.la_ | apply Kd.ka_ | apply Kd.ma_)); exact HO198.out) (Kd.rc_ ho0) hb); have n2_ := ba_.mk (Kd.wc_ (Kd.qc_ (Kd.qc_ ho0 (Kd.R_lt (by (with_reducible repeat (first | apply Kd.la_ | apply Kd.ka_ | apply Kd.ma_)); exact HO_6.out))) (Kd.R_lt (by (with_reducible repeat (first | apply Kd.la_ | apply Kd.ka_ | apply Kd.ma_)); exact HO198.out))) (eb_ (by repeat (first | (with_reducible first | exact HB.out | apply fa_ | apply ca_ | apply ga_) | exact HB.out)))); have n3_ := ba_.mk (gb_ (by repeat (first | (with_reducible first | exact HB.out | apply fa_ | apply ca_ | apply ga_) | exact HB.out)) hb); clear HO_6; clear HO198; clear HB; have HO_6 := n0_; have HO198 := n1_; have HO202 := n2_; have HB := n3_; clear n0_ n1_ n2_ n3_; (try clear hb); (try clear hb2); (try clear hk); (try clear hi); (try clear ho0); obtain ⟨Ao42, co42, eo42⟩ := Kd.fc_ HO_6.out; subst eo42) | ((with_reducible refine ua_ (f := 27) rfl ?_); refine hc_ (some 50) rfl rfl Try.func27 (by kernel_rfl) rfl #[.slice Ao42 x6_13.length co42] rfl (by (try simp only [List.map_toArray, List.map_cons, List.map_nil]); first | done | rfl | (simp only [List.length_drop, List.length_take]; rfl)) ?_; (with_reducible refine (ge_.calls _ _ x6_13 t203 t204 _ ?side1 ?side2 A31.out).mono ?_); (case side1 => repeat (first | exact (Kd.ta_ HO_6.out).2.2 | (with_reducible refine Kd.yb_ ?_ _) | (with_reducible refine Kd.zb_ ?_ _) | (with_reducible refine Kd.jc_ ?_))); (case side2 => exact (Kd.ta_ HO_6.out).2.1); rintro e w43 ⟨v205, rfl, ho0, hb⟩; refine ⟨_, rfl, ?_⟩; have n0_ := ba_.mk (Kd.wb_ (by (with_reducible repeat (first | apply Kd.la_ | apply Kd.ka_ | apply Kd.ma_)); exact HO_6.out) (Kd.rc_ ho0) hb); have n1_ := ba_.mk (Kd.wb_ (by (with_reducible repeat (first | apply Kd.la_ | apply Kd.ka_ | apply Kd.ma_)); exact HO198.out) (Kd.rc_ ho0) hb); have n2_ := ba_.mk (Kd.wb_ (by (with_reducible repeat (first | apply Kd.la_ | apply Kd.ka_ | apply Kd.ma_)); exact HO202.out) (Kd.rc_ ho0) hb); have n3_ := ba_.mk (Kd.wc_ (Kd.qc_ (Kd.qc_ (Kd.qc_ ho0 (Kd.R_lt (by (with_reducible repeat (first | apply Kd.la_ | apply Kd.ka_ | apply Kd.ma_)); exact HO_6.out))) (Kd.R_lt (by (with_reducible repeat (first | apply Kd.la_ | apply Kd.ka_ | apply Kd.ma_)); exact HO198.out))) (Kd.R_lt (by (with_reducible repeat (first | apply Kd.la_ | apply Kd.ka_ | apply Kd.ma_)); exact HO202.out))) (eb_ (by repeat (first | (with_reducible first | exact HB.out | apply fa_ | apply ca_ | apply ga_) | exact HB.out)))); have n4_ := ba_.mk (gb_ (by repeat (first | (with_reducible first | exact HB.out | apply fa_ | apply ca_ | apply ga_) | exact HB.out)) hb); clear HO_6; clear HO198; clear HO202; clear HB; have HO_6 := n0_; have HO198 := n1_; have HO202 := n2_; have HO206 := n3_; have HB := n4_; clear n0_ n1_ n2_ n3_ n4_; (try clear hb); (try clear hb2); (try clear hk); (try clear hi); (try clear ho0)) | ((with_reducible refine ua_ (f := 28) rfl ?_); refine hc_ (some 55) rfl rfl Try.func28 (by kernel_rfl) rfl #[.slice Ao42 x6_13.length co42] rfl (by (try simp only [List.map_toArray, List.map_cons, List.map_nil]); first | done | rfl | (simp only [List.length_drop, List.length_take]; rfl)) ?_; (with_reducible refine (pi_.calls _ _ x6_13 t207 t208 _ ?side1 ?side2 A32.out).mono ?_); (case side1 => repeat (first | exact (Kd.ta_ HO_6.out).2.2 | (with_reducible refine Kd.yb_ ?_ _) | (with_reducible refine Kd.zb_ ?_ _) | (with_reducible refine Kd.jc_ ?_))); (case side2 => exact (Kd.ta_ HO_6.out).2.1); rintro e w44 ⟨v209, rfl, ho0, hb⟩; refine ⟨_, rfl, ?_⟩; have n0_ := ba_.mk (Kd.wb_ (by (with_reducible repeat (first | apply Kd.la_ | apply Kd.ka_ | apply Kd.ma_)); exact HO_6.out) (Kd.rc_ ho0) hb); have n1_ := ba_.mk (Kd.wb_ (by (with_reducible repeat (first | apply Kd.la_ | apply Kd.ka_ | apply Kd.ma_)); exact HO198.out) (Kd.rc_ ho0) hb); have n2_ := ba_.mk (Kd.wb_ (by (with_reducible repeat (first | apply Kd.la_ | apply Kd.ka_ | apply Kd.ma_)); exact HO202.out) (Kd.rc_ ho0) hb); have n3_ := ba_.mk (Kd.wb_ (by (with_reducible repeat (first | apply Kd.la_ | apply Kd.ka_ | apply Kd.ma_)); exact HO206.out) (Kd.rc_ ho0) hb); have n4_ := ba_.mk (Kd.wc_ (Kd.qc_ (Kd.qc_ (Kd.qc_ (Kd.qc_ ho0 (Kd.R_lt (by (with_reducible repeat (first | apply Kd.la_ | apply Kd.ka_ | apply Kd.ma_)); exact HO_6.out))) (Kd.R_lt (by (with_reducible repeat (first | apply Kd.la_ | apply Kd.ka_ | apply Kd.ma_)); exact HO198.out))) (Kd.R_lt (by (with_reducible repeat (first | apply Kd.la_ | apply Kd.ka_ | apply Kd.ma_)); exact HO202.out))) (Kd.R_lt (by (with_reducible repeat (first | apply Kd.la_ | apply Kd.ka_ | apply Kd.ma_)); exact HO206.out))) (eb_ (by repeat (first | (with_reducible first | exact HB.out | apply fa_ | apply ca_ | apply ga_) | exact HB.out)))); have n5_ := ba_.mk (gb_ (by repeat (first | (with_reducible first | exact HB.out | apply fa_ | apply ca_ | apply ga_) | exact HB.out)) hb); clear HO_6; clear HO198; clear HO202; clear HO206; clear HB; have HO_6 := n0_; have HO198 := n1_; have HO202 := n2_; have HO206 := n3_; have HO210 := n4_; have HB := n5_; clear n0_ n1_ n2_ n3_ n4_ n5_; (try clear hb); (try clear hb2); (try clear hk); (try clear hi); (try clear ho0); obtain ⟨Ao45, co45, eo45⟩ := Kd.fc_ HO198.out; subst eo45; obtain ⟨Ao46, co46, eo46⟩ := Kd.fc_ HO202.out; subst eo46) | ((with_reducible refine ua_ (f := 29) rfl ?_); refine hc_ (some 60) rfl rfl Try.func29 (by kernel_rfl) rfl #[.slice Ao45 t195.length co45, .slice Ao46 t199.length co46] rfl (by (try simp only [List.map_toArray, List.map_cons, List.map_nil]); first | done | rfl | (simp only [List.length_drop, List.length_take]; rfl)) ?_; (with_reducible refine (aa_.calls kj13 _ _ t195 _ _ t199 true _ ?side1 ?side2 ?side3 ?side4 A33.out).mono ?_); (case side1 => repeat (first | exact (Kd.ta_ HO198.out).2.2 | (with_reducible refine Kd.yb_ ?_ _) | (with_reducible refine Kd.zb_ ?_ _) | (with_reducible refine Kd.jc_ ?_))); (case side2 => exact (Kd.ta_ HO198.out).2.1); (case side3 => repeat (first | exact (Kd.ta_ HO202.out).2.2 | (with_reducible refine Kd.yb_ ?_ _) | (with_reducible refine Kd.zb_ ?_ _) | (with_reducible refine Kd.jc_ ?_))); (case side4 => exact (Kd.ta_ HO202.out).2.1); rintro e w' ⟨rfl, ⟨nd, rfl⟩⟩; refine ⟨_, rfl, ?_⟩; obtain ⟨Ao47, co47, eo47⟩ := Kd.fc_ HO206.out; subst eo47; obtain ⟨Ao48, co48, eo48⟩ := Kd.fc_ HO210.out; subst eo48) | (go_at_call 29; (with_reducible refine (aa_.calls kj13 _ _ t203 _ _ t207 true _ ?side1 ?side2 ?side3 ?side4 A36.out).mono ?_); (case side1 => repeat (first | exact (Kd.ta_ HO206.out).2.2 | (with_reducible refine Kd.yb_ ?_ _) | (with_reducible refine Kd.zb_ ?_ _) | (with_reducible refine Kd.jc_ ?_))); (case side2 => exact (Kd.ta_ HO206.out).2.1); (case side3 => repeat (first | exact (Kd.ta_ HO210.out).2.2 | (with_reducible refine Kd.yb_ ?_ _) | (with_reducible refine Kd.zb_ ?_ _) | (with_reducible refine Kd.jc_ ?_))); (case side4 => exact (Kd.ta_ HO210.out).2.1); rintro e w' ⟨rfl, ⟨nd, rfl⟩⟩) | (go_at_call 19; (with_reducible refine (ha_.calls kj13  t213 _ A39.out HRT.out).mono ?_); rintro e w49 ⟨rfl, hb⟩; have n0_ := ba_.mk (Kd.cd_ (by (with_reducible repeat (first | apply Kd.la_ | apply Kd.ka_ | apply Kd.ma_)); exact HO_6.out) hb); have n1_ := ba_.mk (Kd.cd_ (by (with_reducible repeat (first | apply Kd.la_ | apply Kd.ka_ | apply Kd.ma_)); exact HO198.out) hb); have n2_ := ba_.mk (Kd.cd_ (by (with_reducible repeat (first | apply Kd.la_ | apply Kd.ka_ | apply Kd.ma_)); exact HO202.out) hb); have n3_ := ba_.mk (Kd.cd_ (by (with_reducible repeat (first | apply Kd.la_ | apply Kd.ka_ | apply Kd.ma_)); exact HO206.out) hb); have n4_ := ba_.mk (Kd.cd_ (by (with_reducible repeat (first | apply Kd.la_ | apply Kd.ka_ | apply Kd.ma_)); exact HO210.out) hb); have n5_ := ba_.mk (gb_ (by repeat (first | (with_reducible first | exact HB.out | apply fa_ | apply ca_ | apply ga_) | exact HB.out)) hb); clear HO_6; clear HO198; clear HO202; clear HO206; clear HO210; clear HB; have HO_6 := n0_; have HO198 := n1_; have HO202 := n2_; have HO206 := n3_; have HO210 := n4_; have HB := n5_; clear n0_ n1_ n2_ n3_ n4_ n5_; (try clear hb); (try clear hb2); (try clear hk); (try clear hi)))
          go_ret
          exact ⟨by first | rfl | (simp [bb_, cb_] <;> rfl) | (simp [*, bb_, cb_] <;> rfl), by repeat (first | (with_reducible first | exact HB.out | apply fa_ | apply ca_ | apply ga_) | exact HB.out)⟩
         ·rw [if_neg c38] at H
          have c38b0 : (t204 == t208) = false := beq_eq_false_iff_ne.mpr c38
          have c38b1 : (t204 != t208) = true := bne_iff_ne.mpr c38
          exact absurd ((Option.some.inj H).trans HRT.out) (by decide)
        ·replace c37 := Bool.eq_false_iff.mpr c37
         subst c37
         have H1 : (some false) = some r := by rw [if_neg (show ¬ (false = true) by decide)] at H; exact H
         clear H
         have H := H1
         clear H1
         exact absurd ((Option.some.inj H).trans HRT.out) (by decide)
       ·rw [if_neg c35] at H
        have c35b0 : (t196 == t200) = false := beq_eq_false_iff_ne.mpr c35
        have c35b1 : (t196 != t200) = true := bne_iff_ne.mpr c35
        exact absurd ((Option.some.inj H).trans HRT.out) (by decide)
      ·replace c34 := Bool.eq_false_iff.mpr c34
       subst c34
       have H1 : (some false) = some r := by rw [if_neg (show ¬ (false = true) by decide)] at H; exact H
       clear H
       have H := H1
       clear H1
       exact absurd ((Option.some.inj H).trans HRT.out) (by decide)
def ya_.Pure : Prop := ∀ (l0 : List Int) (l1 : List Int), l0.length ≤ maxLen → l0.length * 8 ≤ 140737488351232 → (∀ x ∈ l0, (Lit.int .i64 x).wf = true) → l1.length ≤ maxLen → l1.length * 8 ≤ 140737488351232 → (∀ x ∈ l1, (Lit.int .i64 x).wf = true) → ∃ k, ya_.f k l0 l1 = some true
theorem ya_.walk (P : ya_.Pure) (a0 : Option Addr) (len0 cap0 : Nat) (z0 : List Int) (a1 : Option Addr) (len1 cap1 : Nat) (z1 : List Int) (w : World) (w0 : (a0 = none ∧ len0 = 0 ∧ cap0 = 0 ∧ z0 = []) ∨ ∃ x, a0 = some x ∧ len0 ≤ cap0 ∧ cap0 ≤ maxLen ∧ z0.length = cap0 ∧ (∀ i, i < z0.length → w.cell? (x.add i) = some (.int .i64 (z0.getD i 0))) ∧ ∀ n ∈ z0, (Lit.int .i64 n).wf = true) (y0 : len0 * 8 ≤ 140737488351232) (w1 : (a1 = none ∧ len1 = 0 ∧ cap1 = 0 ∧ z1 = []) ∨ ∃ x, a1 = some x ∧ len1 ≤ cap1 ∧ cap1 ≤ maxLen ∧ z1.length = cap1 ∧ (∀ i, i < z1.length → w.cell? (x.add i) = some (.int .i64 (z1.getD i 0))) ∧ ∀ n ∈ z1, (Lit.int .i64 n).wf = true) (y1 : len1 * 8 ≤ 140737488351232) :
  Calls Try.prog 6 #[.slice a0 len0 cap0, .slice a1 len1 cap1] w fun e w' => e = .returned (.bool true) ∧ Below w.heap.size w w' := by
 obtain ⟨l0, rfl, hr0, hm0, hw0, hc0⟩ := le_.vk_ w0
 obtain ⟨l1, rfl, hr1, hm1, hw1, hc1⟩ := le_.vk_ w1
 obtain ⟨k, h⟩ := P l0 l1 hm0 y0 hw0 hm1 y1 hw1
 refine (ya_.calls k _ _ l0 _ _ l1 true w (Kd.ue_ (d := (0 : Int)) (h1 := fun _ => rfl) hr0) hc0 (Kd.ue_ (d := (0 : Int)) (h1 := fun _ => rfl) hr1) hc1 h rfl).mono ?_
 rintro e w' ⟨rfl, hd⟩
 exact ⟨rfl, hd⟩
end Go.Proofs.Ytpkhgapifnjbeaa.Y
end
section
namespace Go.Proofs.Ytpkhgapifnjbeaa.Pure
set_option linter.unusedVariables false
set_option linter.unusedSimpArgs false
open Go.RowKit Go.Proofs.Ytpkhgapifnjbeaa.Y Go.Proofs.YtpkhgapifnjbeaaW.PrintWords Go.Proofs.YtpkhgapifnjbeaaW.PrintLast Go.Proofs.YtpkhgapifnjbeaaW.PrintMore Go.Proofs.Ytpkhgapifnjbeaa.G Go.Proofs.Ytpkhgapifnjbeaa.Rs
theorem tg_ (a b : List Int) (hl : a.length = b.length) (h : a.length ≤ 1000) : ∀ (d i k : Nat), i + d = a.length → d < k → (∀ j, j < i → a.getD j 0 = b.getD j 0) → aa_.l0 k a b (i : Int) = some (decide (a = b)) := by
 intro d
 induction d with
 | zero =>
  intro i k hi hk hz
  obtain ⟨k, rfl⟩ : ∃ m, k = m + 1 := ⟨k - 1, by omega⟩
  simp only [aa_.l0]
  rw [if_neg (by omega)]
  have : a = b := List.ext_getElem hl fun j h1 h2 => by
   have := hz j (by omega)
   rwa [List.getD_eq_getElem?_getD, List.getD_eq_getElem?_getD, List.getElem?_eq_getElem h1, List.getElem?_eq_getElem h2] at this
  rw [decide_eq_true this]
 | succ d ih =>
  intro i k hi hk hz
  obtain ⟨k, rfl⟩ : ∃ m, k = m + 1 := ⟨k - 1, by omega⟩
  have hs : wrap64 ((i : Int) + 1) = ((i + 1 : Nat) : Int) := by unfold wrap64; omega
  simp only [aa_.l0]
  rw [if_pos (by omega), if_pos (by omega), if_pos (by omega), zd_, zd_, hs]
  by_cases e : a.getD i 0 = b.getD i 0
  ·rw [if_pos e]
   refine ih (i + 1) k (by omega) (by omega) fun j hj => ?_
   rcases Nat.lt_or_ge j i with h | h
   ·exact hz j h
   ·rw [show j = i from by omega]; exact e
  ·rw [if_neg e, decide_eq_false (fun q => e (by rw [q]))]
theorem rg_ (a b : List Int) (h : a.length ≤ 1000) (k : Nat) (hk : 1001 ≤ k) : aa_.f k a b = some (decide (a = b)) := by
 unfold aa_.f
 by_cases hl : a.length = b.length
 ·rw [if_pos (by omega)]
  exact tg_ a b hl h a.length 0 k (by omega) (by omega) (fun j hj => by omega)
 ·rw [if_neg (by omega), decide_eq_false (fun q => hl (by rw [q]))]
theorem ze_ : oe_ [3, 1] = true := by decide +kernel
theorem ki_ : mulI 16 2 = 5 := by decide +kernel
theorem inv2 : invI 2 = 18 := by decide +kernel
theorem pg_ (k : Nat) (hk : 1001 ≤ k) : ha_.f k = some true := by
 have e1 : ge_.f [3, 1] = some (encC [3, 1], 0) := by
  unfold ge_.f encS
  rw [if_pos (by decide), if_pos ze_]
 have e2 : je_.f (encC [3, 1]) = some ([3, 1], 0, 0) := by
  unfold je_.f
  rw [wj_ ze_]
 have e3 : ee_.f (encC [3, 1]) = some true := by unfold ee_.f; rw [xe_ ze_]
 have e4 : (encC [3, 1]).length = 8 := cf_ ze_
 have e5 := rg_ [3, 1] [3, 1] (by decide) k hk
 unfold ha_.f
 rw [e1]
 simp only [Option.bind_some]
 rw [e2]
 simp only [Option.bind_some, ud_.f, nc_.f, ki_, inv2, e3, e4, e5]
 simp
end Go.Proofs.Ytpkhgapifnjbeaa.Pure
end
section
namespace Go.Proofs.Ytpkhgapifnjbeaa.Pure
set_option linter.unusedVariables false
set_option linter.unusedSimpArgs false
open Go.RowKit Go.Proofs.Ytpkhgapifnjbeaa.Y Go.Proofs.YtpkhgapifnjbeaaW.PrintWords Go.Proofs.YtpkhgapifnjbeaaW.PrintLast Go.Proofs.YtpkhgapifnjbeaaW.PrintMore Go.Proofs.Ytpkhgapifnjbeaa.G Go.Proofs.Ytpkhgapifnjbeaa.Rs
theorem wg_ (a b : Int) (h1 : 1 ≤ b) : (if Int.tmod a b < 0 then Int.tmod a b + b else Int.tmod a b) = a % b ∧ -b < Int.tmod a b := by
 have h := Int.emod_nonneg a (b := b) (by omega)
 have h' := Int.emod_lt_of_pos a (show 0 < b by omega)
 have e := @Int.tmod_eq_emod a b
 by_cases c : 0 ≤ a ∨ b ∣ a
 ·rw [if_pos c] at e
  rw [if_neg (by omega)]; omega
 ·rw [if_neg c] at e
  have : a % b ≠ 0 := fun q => c (.inr (Int.dvd_of_emod_eq_zero q))
  rw [if_pos (by omega)]; omega
theorem wk_ (a b : Int) (h1 : 1 ≤ b) (h2 : b ≤ 1000000) : ab_.f a b = some (a % b) := by
 obtain ⟨e, h⟩ := wg_ a b h1
 unfold ab_.f
 rw [if_neg (by omega), if_neg (by omega)]
 by_cases c : Int.tmod a b < 0
 ·rw [if_pos c] at e
  rw [if_pos c, show wrap64 (Int.tmod a b + b) = Int.tmod a b + b from by unfold wrap64; omega, e]
 ·rw [if_neg c] at e
  rw [if_neg c, e]
def TA (p : Int) : Prop := 0 ≤ p ∧ p ≤ 600
theorem rn_ (l : List Int) : ∃ L, sb_.f l = some (L, 0) ∧ L.length ≤ 600 ∧ TA 0 := by
 unfold sb_.f
 by_cases h : (l.length : Int) > 600
 ·rw [if_pos h, if_pos (by omega)]
  exact ⟨_, rfl, by rw [List.length_take]; omega, by unfold TA; omega⟩
 ·rw [if_neg h]
  exact ⟨l, rfl, by omega, by unfold TA; omega⟩
theorem tn_ {L : List Int} (hL : L.length ≤ 600) {p : Int} (hp : TA p) : ∃ v q, lb_.f L p = some (v, q) ∧ TA q := by
 unfold TA at hp
 unfold lb_.f
 by_cases h : p ≥ (L.length : Int)
 ·rw [if_pos h]; exact ⟨_, _, rfl, hp⟩
 ·have e1 : wrap64 (p + 1) = p + 1 := by unfold wrap64; omega
  have e2 : wrap64 (p + 1 - 1) = p := by unfold wrap64; omega
  rw [if_neg h, e1, e2, if_pos (by omega), if_pos (by omega)]
  exact ⟨_, _, rfl, by unfold TA; omega⟩
theorem tf_ {L : List Int} (hL : L.length ≤ 600) {p : Int} (hp : TA p) (n : Int) (h1 : 1 ≤ n) (h2 : n ≤ 1000000) : ∃ v q, na_.f L p n = some (v, q) ∧ 0 ≤ v ∧ v < n ∧ TA q := by
 obtain ⟨v, q, e, hq⟩ := tn_ hL hp
 unfold na_.f
 rw [e]
 simp only [Option.bind_some]
 rw [wk_ v n h1 h2]
 exact ⟨_, _, rfl, Int.emod_nonneg _ (by omega), Int.emod_lt_of_pos _ (by omega), hq⟩
theorem wf_ {L : List Int} (hL : L.length ≤ 600) {p : Int} (hp : TA p) (a b : Int) (h0 : -1000 ≤ a) (h1 : a ≤ b) (h2 : b ≤ 100000) : ∃ v q, oa_.f L p a b = some (v, q) ∧ a ≤ v ∧ v ≤ b ∧ TA q := by
 have e1 : wrap64 (wrap64 (b - a) + 1) = b - a + 1 := by unfold wrap64; omega
 obtain ⟨v, q, e, v0, v1, hq⟩ := tf_ hL hp (b - a + 1) (by omega) (by omega)
 unfold oa_.f
 rw [e1, e]
 simp only [Option.bind_some]
 have e2 : wrap64 (a + v) = a + v := by unfold wrap64; omega
 rw [e2]
 exact ⟨_, _, rfl, by omega, by omega, hq⟩
theorem uu_ {L : List Int} (hL : L.length ≤ 600) {p : Int} (hp : TA p) (n : Int) (h1 : 1 ≤ n) (h2 : n ≤ 1000000) : ∃ v q, xb_.f L p n = some (v, q) ∧ TA q := by
 obtain ⟨v, q, e, _, _, hq⟩ := tf_ hL hp n h1 h2
 unfold xb_.f
 rw [e]
 exact ⟨_, _, rfl, hq⟩
theorem uz_ {L : List Int} (hL : L.length ≤ 600) {p : Int} (hp : TA p) (l : List Int) (h1 : 1 ≤ l.length) (h2 : l.length ≤ 1000) : ∃ v q, oc_.f L p l = some (v, q) ∧ v ∈ l ∧ TA q := by
 obtain ⟨v, q, e, v0, v1, hq⟩ := tf_ hL hp (l.length : Int) (by omega) (by omega)
 unfold oc_.f
 rw [e]
 simp only [Option.bind_some]
 rw [if_pos v0, if_pos v1]
 refine ⟨_, _, rfl, ?_, hq⟩
 rw [yz_ v0]
 exact pf_ (by omega)
theorem ou_ {L : List Int} (hL : L.length ≤ 600) (lo hi : Int) (h0 : -1000 ≤ lo) (h1 : lo ≤ hi) (h2 : hi ≤ 100000) : ∀ (i k : Nat) (p : Int) (ys : List Int), TA p → i < k → ys.length + i ≤ 2000 → (∀ y ∈ ys, lo ≤ y ∧ y ≤ hi) → ∃ zs q, va_.l0 k lo hi ys (i : Int) L p = some (zs, q) ∧ zs.length = ys.length + i ∧ (∀ y ∈ zs, lo ≤ y ∧ y ≤ hi) ∧ TA q := by
 intro i
 induction i with
 | zero =>
  intro k p ys hp hk _ hy
  obtain ⟨k, rfl⟩ : ∃ m, k = m + 1 := ⟨k - 1, by omega⟩
  simp only [va_.l0]
  rw [if_neg (by omega)]
  exact ⟨_, _, rfl, rfl, hy, hp⟩
 | succ i ih =>
  intro k p ys hp hk hl hy
  obtain ⟨k, rfl⟩ : ∃ m, k = m + 1 := ⟨k - 1, by omega⟩
  obtain ⟨v, q, e, v0, v1, hq⟩ := wf_ hL hp lo hi h0 h1 h2
  have e1 : wrap64 (((i + 1 : Nat) : Int) - 1) = (i : Int) := by unfold wrap64; omega
  simp only [va_.l0]
  rw [if_pos (by omega), e]
  simp only [Option.bind_some]
  rw [if_pos (by omega), e1]
  obtain ⟨zs, r, e2, l2, y2, hr⟩ := ih k q (ys ++ [v]) hq (by omega) (by rw [List.length_append, List.length_singleton]; omega) (fun y h => by
    rcases List.mem_append.1 h with h | h
    ·exact hy y h
    ·rw [List.mem_singleton.1 h]; exact ⟨v0, v1⟩)
  exact ⟨zs, r, e2, by rw [l2, List.length_append, List.length_singleton]; omega, y2, hr⟩
theorem mv_ {L : List Int} (hL : L.length ≤ 600) {p : Int} (hp : TA p) (m : Nat) (lo hi : Int) (hm : m ≤ 1000) (h0 : -1000 ≤ lo) (h1 : lo ≤ hi) (h2 : hi ≤ 100000) (k : Nat) (hk : m < k) : ∃ zs q, va_.f k L p (m : Int) lo hi = some (zs, q) ∧ zs.length ≤ m ∧ (∀ y ∈ zs, lo ≤ y ∧ y ≤ hi) ∧ TA q := by
 obtain ⟨v, q, e, v0, v1, hq⟩ := wf_ hL hp 0 (m : Int) (by omega) (by omega) (by omega)
 obtain ⟨n, rfl⟩ := Int.eq_ofNat_of_zero_le v0
 unfold va_.f
 rw [e]
 simp only [Option.bind_some]
 obtain ⟨zs, r, e2, l2, y2, hr⟩ := ou_ hL lo hi h0 h1 h2 n k q [] hq (by omega) (by simp; omega) (by simp)
 exact ⟨zs, r, e2, by rw [l2]; simp; omega, y2, hr⟩
end Go.Proofs.Ytpkhgapifnjbeaa.Pure
end
section
namespace Go.Proofs.Ytpkhgapifnjbeaa.Pure
set_option linter.unusedVariables false
set_option linter.unusedSimpArgs false
open Go.RowKit Go.Proofs.Ytpkhgapifnjbeaa.Y Go.Proofs.YtpkhgapifnjbeaaW.PrintWords Go.Proofs.YtpkhgapifnjbeaaW.PrintLast Go.Proofs.YtpkhgapifnjbeaaW.PrintMore Go.Proofs.Ytpkhgapifnjbeaa.G Go.Proofs.Ytpkhgapifnjbeaa.Rs
theorem mc1_ (d : List Int) : (encS d).1.length ≤ 1000 := by
 unfold encS
 by_cases h : oe_ d = true
 ·rw [if_pos h]
  have := cf_ h
  have := (bf_ h).2.1
  simp only; omega
 ·rw [if_neg h]; simp
theorem lc1_ (a b : List Int) (ha : a.length ≤ 300) (hb : b.length ≤ 300) (k : Nat) (hk : 1002 ≤ k) : ya_.j1 k a b = some true := by
 obtain ⟨k, rfl⟩ : ∃ m, k = m + 1 := ⟨k - 1, by omega⟩
 simp only [ya_.j1, ge_.f, pi_.f]
 rw [if_pos ha, if_pos hb]
 simp only [Option.bind_some]
 rw [rg_ _ _ (mc1_ a) k (by omega), rg_ _ _ (mc1_ b) k (by omega), pg_ k (by omega)]
 simp
theorem qr_ : ya_.Pure := by
 intro l t _ _ _ _ _ _
 refine ⟨1100, ?_⟩
 unfold ya_.f
 by_cases hl : (l.length : Int) > 20
 ·rw [if_pos hl]
 ·rw [if_neg hl]
  obtain ⟨L, e0, hL, hp⟩ := rn_ t
  rw [e0]
  simp only [Option.bind_some]
  obtain ⟨zs, q, e1, l1, _, hq⟩ := mv_ hL hp 10 0 31 (by omega) (by omega) (by omega) (by omega) 1100 (by omega)
  rw [show (10 : Int) = ((10 : Nat) : Int) from rfl, e1]
  simp only [Option.bind_some]
  have j0 : ∀ (b : Bool) (q : Int), TA q → (b = true → 1 ≤ zs.length) → ya_.j0 1100 l zs b L q = some true := by
   intro b q hq hb
   simp only [ya_.j0]
   cases b with
   | false =>
    rw [if_neg (by simp)]
    exact lc1_ l zs (by omega) (by omega) _ (by omega)
   | true =>
    have := hb rfl
    rw [if_pos rfl]
    obtain ⟨v, q2, e2, v0, v1, hq2⟩ := tf_ hL hq (zs.length : Int) (by omega) (by omega)
    obtain ⟨u, q3, e3, _, hq3⟩ := uz_ hL hq2 [-1, 32, 31] (by simp) (by simp)
    rw [e2]
    simp only [Option.bind_some]
    rw [e3]
    simp only [Option.bind_some]
    rw [if_pos v0, if_pos v1]
    exact lc1_ l _ (by omega) (by rw [List.length_set]; omega) _ (by omega)
  by_cases hz : (zs.length : Int) > 0
  ·rw [if_pos hz]
   obtain ⟨b, q2, e2, hq2⟩ := uu_ hL hq 8 (by omega) (by omega)
   rw [e2]
   simp only [Option.bind_some]
   exact j0 b q2 hq2 (fun _ => by omega)
  ·rw [if_neg hz]
   exact j0 false q hq (fun h => by cases h)
end Go.Proofs.Ytpkhgapifnjbeaa.Pure
end
section
namespace Go.Proofs.Ytpkhgapifnjbeaa.rscodeEncodes
open Go.ChangeShapes Go.WideShapes Go.ChangeAt Go.RowKit
open Go.ChangeMaps (open_string shut_string)
set_option linter.unusedVariables false
theorem own : ownKnob Try.prog.godebug = none := by kernel_rfl
theorem laidOut : laidOutB Try.prog = true := by kernel_rfl
def gk_ (k : IntKind) (w : World) (a : Option Addr) (len cap : Nat) (zs : List Int) : Prop :=
 (a = none ∧ len = 0 ∧ cap = 0 ∧ zs = []) ∨
 ∃ x, a = some x ∧ len ≤ cap ∧ cap ≤ maxLen ∧ zs.length = cap ∧ (∀ i, i < zs.length → w.cell? (x.add i) = some (.int k (zs.getD i 0))) ∧ ∀ n ∈ zs, (Lit.int k n).wf = true
set_option maxRecDepth 100000 in
theorem lifted (os : Os) (started : os.Started) (H : Type) (enc : TypeId × Value → H) :
  ReturnsInHanded {} Try.checked os 6 .any (Rows.rscodeEncodesSpec.pre6 enc Try.prog Try.f6 Rows.rscodeEncodesRow.domain false) (Rows.rscodeEncodesSpec.post enc Try.prog Try.f6 false true false false) := by
 refine returnsInHanded_of_change_sized (C := Try.checked) own started (by kernel_rfl) Try.func6
  (ChangeSpec.witness6 (enc := enc) (C := Try.checked) false ⟨#[], #[.slice none 0 0, .slice none 0 0], []⟩ 8 (by kernel_rfl) (by kernel_rfl) (by kernel_rfl) (by kernel_rfl)) ?_
 intro W base args ds gs before hval0 hW hcnd hsz0 _
 have hsz : (DataW.weightsEach Try.prog (Try.f6.params.toList ++ Rows.rscodeEncodesSpec.plain.varTypes Try.prog) (ds ++ gs)).all (· ≤ reachBytes) = true := hsz0
 have hval : ∀ (j : Nat) t v, Try.f6.params[j]? = some t → args[j]? = some v → Value.okWide Try.prog W .any base t v := hval0
 have hW' := hW
 obtain ⟨p, q, hA0, hV, rfl, hfz, hnd⟩ := hW
 have hA : DataW.TrodAll enc Try.prog W 0 (fun _ => true) true Try.f6.params.toList args.toList ds p := hA0
 rw [Try.params6] at hA hval hsz
 obtain ⟨v0, vs0, d0, ds0, p0, q0, hargs, rfl, rfl, h0, r0⟩ := trodAll_cons hA
 obtain ⟨v1, vs1, d1, ds1, p1, q1, rfl, rfl, rfl, h1, r1⟩ := trodAll_cons r0
 obtain ⟨rfl, rfl, rfl⟩ := trodAll_nil r1
 obtain rfl : args = #[v0, v1] := by cases args; simp_all
 obtain ⟨rfl, rfl⟩ := trodVars_none hV
 obtain ⟨a0, len0, cap0, rfl⟩ := okWide_slice Try.underlying27 (hval 0 27 v0 rfl rfl)
 have k0 := h0
 have lt0 : ∀ x ∈ p0, x.block < W.heap.size := by obtain ⟨m, hm⟩ := k0; exact DataW.trod_lt m _ _ _ hm
 obtain ⟨z0, w0⟩ : ∃ zs, gk_ .i64 W a0 len0 cap0 zs := by
  obtain ⟨fuel, hf⟩ := h0
  rcases open_ints Try.underlying27 Try.underlying3 (by kernel_rfl) hf with ⟨hcs, _⟩ | ⟨x, l, c, zs, hcs, _, hl, hm, hz, _, hcell, hwz⟩
  ·simp [Value.cells] at hcs
   obtain ⟨rfl, rfl, rfl⟩ := hcs
   exact ⟨[], .inl ⟨rfl, rfl, rfl, rfl⟩⟩
  ·simp [Value.cells] at hcs
   obtain ⟨rfl, rfl, rfl⟩ := hcs
   exact ⟨zs, .inr ⟨_, rfl, hl, hm, by simpa using hz, hcell, hwz⟩⟩
 have y0 : len0 * 8 ≤ 140737488351232 := Go.Proofs.YtpkhgapifnjbeaaW.PrintWords.dg_ hsz (j := 0) (t := 27) rfl rfl Try.underlying27 Try.underlying3 (by kernel_rfl) (by kernel_rfl) h0
 obtain ⟨a1, len1, cap1, rfl⟩ := okWide_slice Try.underlying27 (hval 1 27 v1 rfl rfl)
 have k1 := h1
 have lt1 : ∀ x ∈ p1, x.block < W.heap.size := by obtain ⟨m, hm⟩ := k1; exact DataW.trod_lt m _ _ _ hm
 obtain ⟨z1, w1⟩ : ∃ zs, gk_ .i64 W a1 len1 cap1 zs := by
  obtain ⟨fuel, hf⟩ := h1
  rcases open_ints Try.underlying27 Try.underlying3 (by kernel_rfl) hf with ⟨hcs, _⟩ | ⟨x, l, c, zs, hcs, _, hl, hm, hz, _, hcell, hwz⟩
  ·simp [Value.cells] at hcs
   obtain ⟨rfl, rfl, rfl⟩ := hcs
   exact ⟨[], .inl ⟨rfl, rfl, rfl, rfl⟩⟩
  ·simp [Value.cells] at hcs
   obtain ⟨rfl, rfl, rfl⟩ := hcs
   exact ⟨zs, .inr ⟨_, rfl, hl, hm, by simpa using hz, hcell, hwz⟩⟩
 have y1 : len1 * 8 ≤ 140737488351232 := Go.Proofs.YtpkhgapifnjbeaaW.PrintWords.dg_ hsz (j := 1) (t := 27) rfl rfl Try.underlying27 Try.underlying3 (by kernel_rfl) (by kernel_rfl) h1
 clear hA0 hval0 hsz0 hsz
 refine (Y.ya_.walk Pure.qr_ a0 len0 cap0 z0 a1 len1 cap1 z1 W w0 y0 w1 y1).mono fun e W' ⟨he, bel⟩ => ?_
 subst he
 exact ⟨_, rfl, _, _, _, [], _, [], hW', trodAll_mk1 (shut_bool Try.underlying4 _), (trodAll_cons_mk (Below.trod laidOut (by kernel_rfl) (of_decide_eq_true (by kernel_rfl)) k0 bel lt0) (trodAll_cons_mk (Below.trod laidOut (by kernel_rfl) (of_decide_eq_true (by kernel_rfl)) k1 bel lt1) trodAll_mk0)), rfl, bel.frame _, fun h => by cases h⟩
theorem over : Rows.rscodeEncodesRow.holds Try.pinned (OpenSpec.ofChange Rows.rscodeEncodesSpec) :=
 OpenClaim.holds_of_wide 6 Try.f6 rfl rfl rfl rfl rfl rfl rfl ⟨rfl, rfl, rfl, rfl, rfl⟩ rfl rfl rfl rfl rfl (by kernel_rfl) Try.func6 (by kernel_rfl)
  (of_decide_eq_true (by kernel_rfl)) (by unfold Func.isWrapper; first | (rw [if_pos (by decide +kernel)]; kernel_rfl) | (rw [if_neg (by decide +kernel)]; exact ⟨rfl, rfl⟩))
  (fun os started H enc _ => lifted os started H enc)
theorem proved : Rows.RscodeEncodesSaid := over
end Go.Proofs.Ytpkhgapifnjbeaa.rscodeEncodes
namespace Go.Proofs.Ytpkhgapifnjbeaa
theorem rscodeEncodes_holds : Rows.RscodeEncodesSaid := rscodeEncodes.proved
end Go.Proofs.Ytpkhgapifnjbeaa
end
