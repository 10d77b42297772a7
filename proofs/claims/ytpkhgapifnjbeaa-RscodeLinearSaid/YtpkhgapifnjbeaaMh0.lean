/- A part of the proofs of this seat's statements (texts put together by pack2.py of this claim's repo). -/
import Derived.Test.YtpkhgapifnjbeaaProg
import Derived.Below
import Derived.Deep.Draws
import Derived.Deep.AppendLies
import Derived.Maps.AppendAt
import Derived.OwnWalk
import Derived.Laws.BytesArg
import Derived.Laws.MakeOwn
import Derived.Laws.OwnMore
import Derived.Deep.OwnRows
import Derived.Tactics
import Derived.Lib.ConvBytes
import Derived.Laws.Slices
import Derived.WalkKit
import Derived.KernelRfl
import Derived.RowKit3
import Derived.Deep.LoopGhost
import Derived.Deep.QuietTactic
import Derived.BigQuiet
import Derived.WideLaws
import Derived.Deep.DeepCutAuto
import Derived.Deep.CutBlock
import Derived.Deep.RegionHeld3
import Derived.Laws.Rows
import Derived.Lib.AppendStr
import Derived.ArgAppend
import Derived.Laws.IdiomCopy
import Derived.OrdersHeld
import Derived.Laws.BitsLemmas
import Derived.RowKit
import Derived.Test.YtpkhgapifnjbeaaRows
import Derived.ProofKit
import Derived.OpenShut
import Derived.ShutString
import Derived.ChangeOld
import Derived.SizedLaws
import Derived.Test.YtpkhgapifnjbeaaMB6
section
namespace Go.Proofs.Ytpkhgapifnjbeaa.Y
open Go.RowKit Go.Proofs.Ytpkhgapifnjbeaa.G Go.Proofs.Ytpkhgapifnjbeaa.Rs Go.Proofs.YtpkhgapifnjbeaaW.PrintWords Go.Proofs.YtpkhgapifnjbeaaW.PrintLast Go.Proofs.YtpkhgapifnjbeaaW.PrintMore
attribute [local go_sem] dd_ fd_ rd_ sd_ uc_ vc_ ed_ gd_
set_option linter.unusedVariables false
set_option linter.unusedSimpArgs false
def errW : Option Int → Value
 | none => .nilIface
 | some c => .iface 0 (.int .i64 c)
theorem bb_ : errW none = .nilIface := rfl
theorem cb_ (c : Int) : errW (some c) = .iface 0 (.int .i64 c) := rfl
theorem te_ : (Try.prog.info? 3).map (fun i => (i.zero, i.size, i.bytes)) = some (some (.int .i64 0), 1, 8) := by kernel_rfl
def re_ (xs : List (List Int)) (i : Int) : (List Int) := xs.getD i.toNat ([] : List Int)
theorem yk_ {w : World} {A : Option Addr} {n : Nat} {xs : List (List Int)} (h : Kd.C (Kd.slice 3 (Kd.int .i64)) w A n xs) (i : Int) (h0 : 0 ≤ i) (h1 : i < n) : ∃ ad A0 c0, A = some ad ∧ w.cell? (ad.add i.toNat) = some (.slice A0 (re_ xs i).length c0) ∧ (re_ xs i).length ≤ c0 ∧ (Kd.int .i64).C w A0 (re_ xs i).length (re_ xs i) := by
 obtain ⟨ad, c, e, _, hK, hc0⟩ := Kd.ai_ h ([] : List Int) i h0 h1
 have hc : ∀ j u, c[j]? = some u → w.cell? (ad.add (i.toNat * 1 + j)) = some u := hc0
 obtain ⟨A0, c0, rfl, l0, g0⟩ := hK
 exact ⟨ad, A0, c0, e, by have hq := hc 0 _ rfl; rwa [Nat.mul_one, Nat.add_zero] at hq, l0, g0⟩
end Go.Proofs.Ytpkhgapifnjbeaa.Y
end
section
namespace Go.Proofs.Ytpkhgapifnjbeaa.Y
open Go.RowKit Go.Proofs.Ytpkhgapifnjbeaa.G Go.Proofs.Ytpkhgapifnjbeaa.Rs Go.Proofs.YtpkhgapifnjbeaaW.PrintWords Go.Proofs.YtpkhgapifnjbeaaW.PrintLast Go.Proofs.YtpkhgapifnjbeaaW.PrintMore
attribute [local go_sem] dd_ fd_ rd_ sd_ uc_ vc_ ed_ gd_
set_option linter.unusedVariables false
set_option linter.unusedSimpArgs false
def ab_.f (a0 : Int) (a1 : Int) : Option (Int) := if a1 < 1 then (some 0) else (if a1 = 0 then (none) else (if (Int.tmod a0 a1) < 0 then (some (wrap64 ((Int.tmod a0 a1) + a1))) else (some (Int.tmod a0 a1))))
set_option maxHeartbeats 8000000 in
set_option maxRecDepth 100000 in
theorem ab_.calls (a0 : Int) (a1 : Int) (r : Int) (w : World) (h : ab_.f a0 a1 = some r) :
  Calls Try.prog 14 #[.int .i64 a0, .int .i64 a1] w fun e w' => e = .returned (.int .i64 r) ∧ ra_ w w' := by
 have H : (if a1 < 1 then (some 0) else (if a1 = 0 then (none) else (if (Int.tmod a0 a1) < 0 then (some (wrap64 ((Int.tmod a0 a1) + a1))) else (some (Int.tmod a0 a1))))) = some r := h
 clear h
 by_cases c3 : a1 < 1
 ·rw [if_pos c3] at H
  have c3b0 : decide (a1 < 1) = true := decide_eq_true c3
  clear c3
  obtain rfl := Option.some.inj H
  go_enter Try.func14, Try.ntmps14
  go_wp2
  go_ret
  exact ⟨by first | rfl | (simp; done) | (simp [*]; done), by repeat (first | exact ra_.refl _ | apply ra_.step)⟩
 ·rw [if_neg c3] at H
  have c3b0 : decide (a1 < 1) = false := decide_eq_false c3
  clear c3
  by_cases c4 : a1 = 0
  ·rw [if_pos c4] at H
   exact absurd H (by simp)
  ·rw [if_neg c4] at H
   have c4b0 : (a1 == 0) = false := beq_eq_false_iff_ne.mpr c4
   have c4b1 : (a1 != 0) = true := bne_iff_ne.mpr c4
   by_cases c5 : (Int.tmod a0 a1) < 0
   ·rw [if_pos c5] at H
    have c5b0 : decide ((Int.tmod a0 a1) < 0) = true := decide_eq_true c5
    clear c5
    obtain rfl := Option.some.inj H
    go_enter Try.func14, Try.ntmps14
    go_wp2
    go_ret
    exact ⟨by first | rfl | (simp; done) | (simp [*]; done), by repeat (first | exact ra_.refl _ | apply ra_.step)⟩
   ·rw [if_neg c5] at H
    have c5b0 : decide ((Int.tmod a0 a1) < 0) = false := decide_eq_false c5
    clear c5
    obtain rfl := Option.some.inj H
    go_enter Try.func14, Try.ntmps14
    go_wp2
    go_ret
    exact ⟨by first | rfl | (simp; done) | (simp [*]; done), by repeat (first | exact ra_.refl _ | apply ra_.step)⟩
def aa_.l0 : Nat → List Int → List Int → Int → Option (Bool)
 | 0, _, _, _ => none
 | k + 1, x0, x1, x5 => if x5 < (x0.length : Int) then (if 0 ≤ x5 then (if x5 < (x1.length : Int) then (if (rd x0 x5) = (rd x1 x5) then (aa_.l0 k x0 x1 (wrap64 (x5 + 1))) else (some false)) else (none)) else (none)) else (some true)
def aa_.f (k : Nat) (l0 : List Int) (l1 : List Int) : Option (Bool) := if (l0.length : Int) = (l1.length : Int) then (aa_.l0 k l0 l1 0) else (some false)
theorem aa_.xc_ : ∀ k, (∀ y0 y1 y2, LeO (aa_.l0 k y0 y1 y2) (aa_.l0 (k + 1) y0 y1 y2))
 | 0 => fun _ _ _ r h => by simp [aa_.l0] at h
 | k + 1 => by
  have ih0 := aa_.xc_ k
  ·intro y0 y1 y2
   unfold aa_.l0
   repeat' first
   | (with_reducible exact ih0 _ _ _)
   | (with_reducible exact LeO.refl _)
   | (with_reducible exact LeO.none _)
   | (with_reducible refine LeO.ite ?_ ?_)
   | (with_reducible refine LeO.bind ?_ (fun _ => ?_))
   | exact ih0 _ _ _
   | exact LeO.none _
   | refine LeO.ite ?_ ?_
   | refine LeO.bind ?_ (fun _ => ?_)
theorem aa_.mono : ∀ a0 a1 k, LeO (aa_.f k a0 a1) (aa_.f (k + 1) a0 a1) := by
 intro a0 a1 k
 have ih0 := aa_.xc_ k
 unfold aa_.f
 repeat' first
   | (with_reducible exact ih0 _ _ _)
   | (with_reducible exact LeO.refl _)
   | (with_reducible exact LeO.none _)
   | (with_reducible refine LeO.ite ?_ ?_)
   | (with_reducible refine LeO.bind ?_ (fun _ => ?_))
   | exact ih0 _ _ _
   | exact LeO.none _
   | refine LeO.ite ?_ ?_
   | refine LeO.bind ?_ (fun _ => ?_)
set_option maxHeartbeats 8000000 in
set_option maxRecDepth 100000 in
theorem aa_.calls (k : Nat) (A0 : Option Addr) (c0 : Nat) (l0 : List Int) (A1 : Option Addr) (c1 : Nat) (l1 : List Int) (r : Bool) (w : World) (hr0 : Kd.C (Kd.int .i64) w A0 l0.length l0) (hc0 : l0.length ≤ c0) (hr1 : Kd.C (Kd.int .i64) w A1 l1.length l1) (hc1 : l1.length ≤ c1) (h : aa_.f k l0 l1 = some r) :
  Calls Try.prog 29 #[.slice A0 l0.length c0, .slice A1 l1.length c1] w fun e w' => e = .returned (.bool r) ∧ ra_ w w' := by
 have HR0 := ba_.mk hr0
 have HC0 := ba_.mk hc0
 clear hr0 hc0
 have HR1 := ba_.mk hr1
 have HC1 := ba_.mk hc1
 clear hr1 hc1
 have H : (if (l0.length : Int) = (l1.length : Int) then (aa_.l0 k l0 l1 0) else (some false)) = some r := h
 clear h
 by_cases c3 : (l0.length : Int) = (l1.length : Int)
 ·rw [if_pos c3] at H
  have c3b0 : ((l0.length : Int) == (l1.length : Int)) = true := beq_iff_eq.mpr c3
  try have c3b9 := eq_true (beq_iff_eq.mp c3b0)
  have c3b1 : ((l0.length : Int) != (l1.length : Int)) = false := bne_eq_false_iff_eq.mpr c3
  have c3b2 : (l0.length == l1.length) = true := by first | simpa using c3 | (simp at c3 ⊢; omega)
  clear c3
  have H' := ba_.mk H
  clear H
  go_enter Try.func29, Try.ntmps29
  go_wp2
  repeat (go_quiet (fail); try go_wp2)
  go_loopg [5] k (fun kq v5 w' => ∃ (x5_1 : Int), v5 = .int .i64 x5_1 ∧ ba_ (aa_.l0 kq l0 l1 x5_1 = some r) ∧ ba_ (kq ≤ k) ∧ ra_ w w')
  case atStart => exact ⟨(0), (by first | rfl | (simp; done) | (simp [*]; done)), H', ⟨Nat.le_refl _⟩, by repeat (first | exact ra_.refl _ | apply ra_.step)⟩
  case round =>
   clear H'
   try clear c1
   try clear c2
   try clear p2
   try clear c3
   try clear c3b0
   try clear c3b1
   try clear c3b2
   obtain ⟨x5_1, rfl, HA, HK1, ⟨m1, rfl⟩⟩ := hrel
   cases gk with
   | zero => exact absurd HA.out (by simp [aa_.l0])
   | succ k1 =>
    have H := HA.out
    clear HA
    simp only [aa_.l0] at H
    by_cases c4 : x5_1 < (l0.length : Int)
    ·rw [if_pos c4] at H
     have c4b0 : decide (x5_1 < (l0.length : Int)) = true := decide_eq_true c4
     clear c4
     by_cases c5 : 0 ≤ x5_1
     ·rw [if_pos c5] at H
      have c5b0 : decide (0 ≤ x5_1) = true := decide_eq_true c5
      clear c5
      by_cases c6 : x5_1 < (l1.length : Int)
      ·rw [if_pos c6] at H
       have c6b0 : decide (x5_1 < (l1.length : Int)) = true := decide_eq_true c6
       clear c6
       by_cases c7 : (rd l0 x5_1) = (rd l1 x5_1)
       ·rw [if_pos c7] at H
        have c7b0 : ((rd l0 x5_1) == (rd l1 x5_1)) = true := beq_iff_eq.mpr c7
        try have c7b9 := eq_true (beq_iff_eq.mp c7b0)
        have c7b1 : ((rd l0 x5_1) != (rd l1 x5_1)) = false := bne_eq_false_iff_eq.mpr c7
        clear c7
        have H' := ba_.mk H
        clear H
        have p101 : 0 ≤ (x5_1 : Int) := of_decide_eq_true (by first | (with_reducible assumption) | assumption)
        have q101 : x5_1 < (l0.length : Int) := of_decide_eq_true (by first | (with_reducible assumption) | assumption)
        obtain ⟨ad101, e101, hx101_0⟩ := Kd.nd_ HR0.out x5_1 p101 q101
        cases e101
        replace p101 := eq_true p101
        replace q101 := eq_true q101
        have p102 : 0 ≤ (x5_1 : Int) := of_decide_eq_true (by first | (with_reducible assumption) | assumption)
        have q102 : x5_1 < (l1.length : Int) := of_decide_eq_true (by first | (with_reducible assumption) | assumption)
        obtain ⟨ad102, e102, hx102_0⟩ := Kd.nd_ HR1.out x5_1 p102 q102
        cases e102
        replace p102 := eq_true p102
        replace q102 := eq_true q102
        go_wp2
        repeat (go_quiet (fail); try go_wp2)
        go_roundg k1
        case measure => have := HK1.out; omega
        case rel => exact ⟨(wrap64 (x5_1 + 1)), (by first | rfl | (simp; done) | (simp [*]; done)), H', ⟨by have := HK1.out; omega⟩, by repeat (first | exact ra_.refl _ | apply ra_.step)⟩
       ·rw [if_neg c7] at H
        have c7b0 : ((rd l0 x5_1) == (rd l1 x5_1)) = false := beq_eq_false_iff_ne.mpr c7
        try have c7b9 := eq_false (beq_eq_false_iff_ne.mp c7b0)
        have c7b1 : ((rd l0 x5_1) != (rd l1 x5_1)) = true := bne_iff_ne.mpr c7
        obtain rfl := Option.some.inj H
        have p101 : 0 ≤ (x5_1 : Int) := of_decide_eq_true (by first | (with_reducible assumption) | assumption)
        have q101 : x5_1 < (l0.length : Int) := of_decide_eq_true (by first | (with_reducible assumption) | assumption)
        obtain ⟨ad101, e101, hx101_0⟩ := Kd.nd_ HR0.out x5_1 p101 q101
        cases e101
        replace p101 := eq_true p101
        replace q101 := eq_true q101
        have p102 : 0 ≤ (x5_1 : Int) := of_decide_eq_true (by first | (with_reducible assumption) | assumption)
        have q102 : x5_1 < (l1.length : Int) := of_decide_eq_true (by first | (with_reducible assumption) | assumption)
        obtain ⟨ad102, e102, hx102_0⟩ := Kd.nd_ HR1.out x5_1 p102 q102
        cases e102
        replace p102 := eq_true p102
        replace q102 := eq_true q102
        go_wp2
        repeat (go_quiet (fail); try go_wp2)
        go_ret
        exact ⟨by first | rfl | (simp; done) | (simp [*]; done), by repeat (first | exact ra_.refl _ | apply ra_.step)⟩
      ·rw [if_neg c6] at H
       exact absurd H (by simp)
     ·rw [if_neg c5] at H
      exact absurd H (by simp)
    ·rw [if_neg c4] at H
     have c4b0 : decide (x5_1 < (l0.length : Int)) = false := decide_eq_false c4
     clear c4
     obtain rfl := Option.some.inj H
     go_wp2
     repeat (go_quiet (fail); try go_wp2)
     go_ret
     exact ⟨by first | rfl | (simp; done) | (simp [*]; done), by repeat (first | exact ra_.refl _ | apply ra_.step)⟩
 ·rw [if_neg c3] at H
  have c3b0 : ((l0.length : Int) == (l1.length : Int)) = false := beq_eq_false_iff_ne.mpr c3
  try have c3b9 := eq_false (beq_eq_false_iff_ne.mp c3b0)
  have c3b1 : ((l0.length : Int) != (l1.length : Int)) = true := bne_iff_ne.mpr c3
  have c3b2 : (l0.length == l1.length) = false := by first | simpa using c3 | (simp at c3 ⊢; omega)
  obtain rfl := Option.some.inj H
  go_enter Try.func29, Try.ntmps29
  go_wp2
  repeat (go_quiet (fail); try go_wp2)
  go_ret
  exact ⟨by first | rfl | (simp; done) | (simp [*]; done), by repeat (first | exact ra_.refl _ | apply ra_.step)⟩
def ha_.f (k : Nat)  : Option (Bool) := (ge_.f (([3, 1] : List Int))).bind fun bt106 => ((je_.f bt106.1).bind fun bt110 => ((ud_.f 16 2).bind fun t115 => (if t115 = 5 then ((nc_.f 2).bind fun t116 => (if t116 = 18 then (if bt106.2 = 0 then (if (bt106.1.length : Int) = 8 then ((ee_.f bt106.1).bind fun t117 => (if t117 = true then (if bt110.2.2 = 0 then (if bt110.2.1 = 0 then ((aa_.f k bt110.1 (([3, 1] : List Int))).bind fun t121 => (some t121)) else (some false)) else (some false)) else (some false))) else (some false)) else (some false)) else (some false))) else (some false))))
theorem ha_.mono : ∀ k, LeO (ha_.f k ) (ha_.f (k + 1) ) := by
 intro  k
 unfold ha_.f
 repeat' first
   | (with_reducible exact aa_.mono _ _ _)
   | (with_reducible exact LeO.refl _)
   | (with_reducible exact LeO.none _)
   | (with_reducible refine LeO.ite ?_ ?_)
   | (with_reducible refine LeO.bind ?_ (fun _ => ?_))
   | exact aa_.mono _ _ _
   | exact LeO.none _
   | refine LeO.ite ?_ ?_
   | refine LeO.bind ?_ (fun _ => ?_)
set_option maxHeartbeats 8000000 in
set_option maxRecDepth 100000 in
theorem ha_.calls (k : Nat)  (r : Bool) (w : World) (h : ha_.f k  = some r) (hr_ : r = true) :
  Calls Try.prog 19 #[] w fun e w' => e = .returned (.bool r) ∧ Below w.heap.size w w' := by
 have HRT := ba_.mk hr_
 clear hr_
 have HB := ba_.mk (Below.refl w.heap.size w)
 have H : ((ge_.f (([3, 1] : List Int))).bind fun bt106 => ((je_.f bt106.1).bind fun bt110 => ((ud_.f 16 2).bind fun t115 => (if t115 = 5 then ((nc_.f 2).bind fun t116 => (if t116 = 18 then (if bt106.2 = 0 then (if (bt106.1.length : Int) = 8 then ((ee_.f bt106.1).bind fun t117 => (if t117 = true then (if bt110.2.2 = 0 then (if bt110.2.1 = 0 then ((aa_.f k bt110.1 (([3, 1] : List Int))).bind fun t121 => (some t121)) else (some false)) else (some false)) else (some false))) else (some false)) else (some false)) else (some false))) else (some false))))) = some r := h
 clear h
 obtain ⟨y103, hy103⟩ : ∃ y_ : List Int, y_ = (([3, 1] : List Int)) := ⟨_, rfl⟩
 replace H : ((ge_.f y103).bind fun bt106 => ((je_.f bt106.1).bind fun bt110 => ((ud_.f 16 2).bind fun t115 => (if t115 = 5 then ((nc_.f 2).bind fun t116 => (if t116 = 18 then (if bt106.2 = 0 then (if (bt106.1.length : Int) = 8 then ((ee_.f bt106.1).bind fun t117 => (if t117 = true then (if bt110.2.2 = 0 then (if bt110.2.1 = 0 then ((aa_.f k bt110.1 (([3, 1] : List Int))).bind fun t121 => (some t121)) else (some false)) else (some false)) else (some false))) else (some false)) else (some false)) else (some false))) else (some false))))) = some r := by first | (rw [hy103]; with_reducible exact H) | (have H2_ := (Option.bind_some _ _).symm.trans H; rw [hy103]; with_reducible exact H2_) | (have H2_ := (Option.bind_some _ _).symm.trans H; with_reducible exact H2_) | with_reducible exact H | (rw [hy103]; exact H) | exact H
 have Ny103 := ba_.mk hy103
 clear hy103
 replace H := Option.bind_eq_some_iff.mp H
 obtain ⟨⟨t106, t107⟩, A10, H⟩ := H
 replace H : ((je_.f t106).bind fun bt110 => ((ud_.f 16 2).bind fun t115 => (if t115 = 5 then ((nc_.f 2).bind fun t116 => (if t116 = 18 then (if t107 = 0 then (if (t106.length : Int) = 8 then ((ee_.f t106).bind fun t117 => (if t117 = true then (if bt110.2.2 = 0 then (if bt110.2.1 = 0 then ((aa_.f k bt110.1 (([3, 1] : List Int))).bind fun t121 => (some t121)) else (some false)) else (some false)) else (some false))) else (some false)) else (some false)) else (some false))) else (some false)))) = some r := H
 have A1 := ba_.mk A10
 clear A10
 replace H := Option.bind_eq_some_iff.mp H
 obtain ⟨⟨t110, t111, t112⟩, A20, H⟩ := H
 replace H : ((ud_.f 16 2).bind fun t115 => (if t115 = 5 then ((nc_.f 2).bind fun t116 => (if t116 = 18 then (if t107 = 0 then (if (t106.length : Int) = 8 then ((ee_.f t106).bind fun t117 => (if t117 = true then (if t112 = 0 then (if t111 = 0 then ((aa_.f k t110 (([3, 1] : List Int))).bind fun t121 => (some t121)) else (some false)) else (some false)) else (some false))) else (some false)) else (some false)) else (some false))) else (some false))) = some r := H
 have A2 := ba_.mk A20
 clear A20
 replace H := Option.bind_eq_some_iff.mp H
 obtain ⟨t115, A30, H⟩ := H
 replace H : (if t115 = 5 then ((nc_.f 2).bind fun t116 => (if t116 = 18 then (if t107 = 0 then (if (t106.length : Int) = 8 then ((ee_.f t106).bind fun t117 => (if t117 = true then (if t112 = 0 then (if t111 = 0 then ((aa_.f k t110 (([3, 1] : List Int))).bind fun t121 => (some t121)) else (some false)) else (some false)) else (some false))) else (some false)) else (some false)) else (some false))) else (some false)) = some r := H
 have A3 := ba_.mk A30
 clear A30
 by_cases c4 : t115 = 5
 ·rw [if_pos c4] at H
  have c4b0 : (t115 == 5) = true := beq_iff_eq.mpr c4
  have c4b1 : (t115 != 5) = false := bne_eq_false_iff_eq.mpr c4
  clear c4
  replace H := Option.bind_eq_some_iff.mp H
  obtain ⟨t116, A50, H⟩ := H
  replace H : (if t116 = 18 then (if t107 = 0 then (if (t106.length : Int) = 8 then ((ee_.f t106).bind fun t117 => (if t117 = true then (if t112 = 0 then (if t111 = 0 then ((aa_.f k t110 (([3, 1] : List Int))).bind fun t121 => (some t121)) else (some false)) else (some false)) else (some false))) else (some false)) else (some false)) else (some false)) = some r := H
  have A5 := ba_.mk A50
  clear A50
  by_cases c6 : t116 = 18
  ·rw [if_pos c6] at H
   have c6b0 : (t116 == 18) = true := beq_iff_eq.mpr c6
   have c6b1 : (t116 != 18) = false := bne_eq_false_iff_eq.mpr c6
   clear c6
   by_cases c7 : t107 = 0
   ·rw [if_pos c7] at H
    have c7b0 : (t107 == 0) = true := beq_iff_eq.mpr c7
    have c7b1 : (t107 != 0) = false := bne_eq_false_iff_eq.mpr c7
    clear c7
    by_cases c8 : (t106.length : Int) = 8
    ·rw [if_pos c8] at H
     have c8b0 : ((t106.length : Int) == 8) = true := beq_iff_eq.mpr c8
     try have c8b9 := eq_true (beq_iff_eq.mp c8b0)
     have c8b1 : ((t106.length : Int) != 8) = false := bne_eq_false_iff_eq.mpr c8
     clear c8
     replace H := Option.bind_eq_some_iff.mp H
     obtain ⟨t117, A90, H⟩ := H
     replace H : (if t117 = true then (if t112 = 0 then (if t111 = 0 then ((aa_.f k t110 (([3, 1] : List Int))).bind fun t121 => (some t121)) else (some false)) else (some false)) else (some false)) = some r := H
     have A9 := ba_.mk A90
     clear A90
     by_cases c10 : t117 = true
     ·subst c10
      have H1 : (if t112 = 0 then (if t111 = 0 then ((aa_.f k t110 (([3, 1] : List Int))).bind fun t121 => (some t121)) else (some false)) else (some false)) = some r := by rw [if_pos rfl] at H; exact H
      clear H
      have H := H1
      clear H1
      by_cases c11 : t112 = 0
      ·rw [if_pos c11] at H
       have c11b0 : (t112 == 0) = true := beq_iff_eq.mpr c11
       have c11b1 : (t112 != 0) = false := bne_eq_false_iff_eq.mpr c11
       clear c11
       by_cases c12 : t111 = 0
       ·rw [if_pos c12] at H
        have c12b0 : (t111 == 0) = true := beq_iff_eq.mpr c12
        have c12b1 : (t111 != 0) = false := bne_eq_false_iff_eq.mpr c12
        clear c12
        obtain ⟨y118, hy118⟩ : ∃ y_ : List Int, y_ = (([3, 1] : List Int)) := ⟨_, rfl⟩
        replace H : ((aa_.f k t110 y118).bind fun t121 => (some t121)) = some r := by first | (rw [hy118]; with_reducible exact H) | (have H2_ := (Option.bind_some _ _).symm.trans H; rw [hy118]; with_reducible exact H2_) | (have H2_ := (Option.bind_some _ _).symm.trans H; with_reducible exact H2_) | with_reducible exact H | (rw [hy118]; exact H) | exact H
        have Ny118 := ba_.mk hy118
        clear hy118
        replace H := Option.bind_eq_some_iff.mp H
        obtain ⟨t121, A130, H⟩ := H
        replace H : (some t121) = some r := H
        have A13 := ba_.mk A130
        clear A130
        obtain rfl := Option.some.inj H
        go_enter Try.func19, Try.ntmps19
        go_wp2_with (first | ((with_reducible refine yd_ (N := 7) rfl ?_); (try (refine ce_ (by rfl) ?_; dsimp only)); refine Kd.ri_ (Kd.int .i64) _ 3 ?hg (N := 7) ?hd (xs := ([3, 1] : List Int)) (inner := [.int .i64 3, .int .i64 1]) (ok := fun _ => True) (okp := fun _ => True) ?hr ?hp (fun _ hk => hk) trivial (Below.refl _ _) (Nat.le_refl _) (by simp) ?_; (case hd => rfl); (case hg => rfl); (case hr => first | (go_simp; done) | (go_simp; rfl)); (case hp => exact (Reps.one (show Kd.M (Kd.int .i64) _ _ _ 3 [.int .i64 3] from rfl) (Reps.one (show Kd.M (Kd.int .i64) _ _ _ 1 [.int .i64 1] from rfl) (Reps.none _ _)))); intro v104 w14 ho15 hb hg_ hnew_; clear hg_ hnew_; (first | rw [← Ny103.out] at ho15 | (simp only [Int.reduceToNat] at ho15; rw [← Ny103.out] at ho15)); have n0_ := ba_.mk (Kd.wc_ ho15 (eb_ (by repeat (first | (with_reducible first | exact HB.out | apply fa_ | apply ca_ | apply ga_) | exact HB.out)))); have n1_ := ba_.mk (gb_ (by repeat (first | (with_reducible first | exact HB.out | apply fa_ | apply ca_ | apply ga_) | exact HB.out)) hb); clear HB; have HO105 := n0_; have HB := n1_; clear n0_ n1_; clear hb ho15; obtain ⟨Ao16, co16, eo16⟩ := Kd.fc_ HO105.out; subst eo16) | ((with_reducible refine ua_ (f := 27) rfl ?_); refine hc_ (some 8) rfl rfl Try.func27 (by kernel_rfl) rfl #[.slice Ao16 y103.length co16] rfl (by (try simp only [List.map_toArray, List.map_cons, List.map_nil]); first | done | rfl | (simp only [List.length_drop, List.length_take]; rfl)) ?_; (with_reducible refine (ge_.calls _ _ y103 t106 t107 _ ?side1 ?side2 A1.out).mono ?_); (case side1 => repeat (first | exact (Kd.ta_ HO105.out).2.2 | (with_reducible refine Kd.yb_ ?_ _) | (with_reducible refine Kd.zb_ ?_ _) | (with_reducible refine Kd.jc_ ?_))); (case side2 => exact (Kd.ta_ HO105.out).2.1); rintro e w17 ⟨v108, rfl, ho0, hb⟩; refine ⟨_, rfl, ?_⟩; have n0_ := ba_.mk (Kd.wb_ (by (with_reducible repeat (first | apply Kd.la_ | apply Kd.ka_ | apply Kd.ma_)); exact HO105.out) (Kd.rc_ ho0) hb); have n1_ := ba_.mk (Kd.wc_ (Kd.qc_ ho0 (Kd.R_lt (by (with_reducible repeat (first | apply Kd.la_ | apply Kd.ka_ | apply Kd.ma_)); exact HO105.out))) (eb_ (by repeat (first | (with_reducible first | exact HB.out | apply fa_ | apply ca_ | apply ga_) | exact HB.out)))); have n2_ := ba_.mk (gb_ (by repeat (first | (with_reducible first | exact HB.out | apply fa_ | apply ca_ | apply ga_) | exact HB.out)) hb); clear HO105; clear HB; have HO105 := n0_; have HO109 := n1_; have HB := n2_; clear n0_ n1_ n2_; (try clear hb); (try clear hb2); (try clear hk); (try clear hi); (try clear ho0); obtain ⟨Ao18, co18, eo18⟩ := Kd.fc_ HO109.out; subst eo18) | ((with_reducible refine ua_ (f := 34) rfl ?_); refine hc_ (some 13) rfl rfl Try.func34 (by kernel_rfl) rfl #[.slice Ao18 t106.length co18] rfl (by (try simp only [List.map_toArray, List.map_cons, List.map_nil]); first | done | rfl | (simp only [List.length_drop, List.length_take]; rfl)) ?_; (with_reducible refine (je_.calls _ _ t106 t110 t111 t112 _ ?side1 ?side2 A2.out).mono ?_); (case side1 => repeat (first | exact (Kd.ta_ HO109.out).2.2 | (with_reducible refine Kd.yb_ ?_ _) | (with_reducible refine Kd.zb_ ?_ _) | (with_reducible refine Kd.jc_ ?_))); (case side2 => exact (Kd.ta_ HO109.out).2.1); rintro e w19 ⟨v113, rfl, ho0, hb⟩; refine ⟨_, rfl, ?_⟩; have n0_ := ba_.mk (Kd.wb_ (by (with_reducible repeat (first | apply Kd.la_ | apply Kd.ka_ | apply Kd.ma_)); exact HO105.out) (Kd.rc_ ho0) hb); have n1_ := ba_.mk (Kd.wb_ (by (with_reducible repeat (first | apply Kd.la_ | apply Kd.ka_ | apply Kd.ma_)); exact HO109.out) (Kd.rc_ ho0) hb); have n2_ := ba_.mk (Kd.wc_ (Kd.qc_ (Kd.qc_ ho0 (Kd.R_lt (by (with_reducible repeat (first | apply Kd.la_ | apply Kd.ka_ | apply Kd.ma_)); exact HO105.out))) (Kd.R_lt (by (with_reducible repeat (first | apply Kd.la_ | apply Kd.ka_ | apply Kd.ma_)); exact HO109.out))) (eb_ (by repeat (first | (with_reducible first | exact HB.out | apply fa_ | apply ca_ | apply ga_) | exact HB.out)))); have n3_ := ba_.mk (gb_ (by repeat (first | (with_reducible first | exact HB.out | apply fa_ | apply ca_ | apply ga_) | exact HB.out)) hb); clear HO105; clear HO109; clear HB; have HO105 := n0_; have HO109 := n1_; have HO114 := n2_; have HB := n3_; clear n0_ n1_ n2_ n3_; (try clear hb); (try clear hb2); (try clear hk); (try clear hi); (try clear ho0)) | ((with_reducible refine ua_ (f := 15) rfl ?_); refine hc_ (some 17) rfl rfl Try.func15 (by kernel_rfl) rfl #[.int .i64 16, .int .i64 2] rfl (by (try simp only [List.map_toArray, List.map_cons, List.map_nil]); first | done | rfl | (simp only [List.length_drop, List.length_take]; rfl)) ?_; (with_reducible refine (ud_.calls 16 2 t115 _ A3.out).mono ?_); rintro e w' ⟨rfl, ⟨nd, rfl⟩⟩; refine ⟨_, rfl, ?_⟩) | (go_at_call 17; (with_reducible refine (nc_.calls 2 t116 _ A5.out).mono ?_); rintro e w' ⟨rfl, ⟨nd, rfl⟩⟩) | (go_at_call 32; (with_reducible refine (ee_.calls _ _ t106 true _ ?side1 ?side2 A9.out).mono ?_); (case side1 => repeat (first | exact (Kd.ta_ HO109.out).2.2 | (with_reducible refine Kd.yb_ ?_ _) | (with_reducible refine Kd.zb_ ?_ _) | (with_reducible refine Kd.jc_ ?_))); (case side2 => exact (Kd.ta_ HO109.out).2.1); rintro e w20 ⟨rfl, hb⟩; have n0_ := ba_.mk (Kd.cd_ (by (with_reducible repeat (first | apply Kd.la_ | apply Kd.ka_ | apply Kd.ma_)); exact HO105.out) hb); have n1_ := ba_.mk (Kd.cd_ (by (with_reducible repeat (first | apply Kd.la_ | apply Kd.ka_ | apply Kd.ma_)); exact HO109.out) hb); have n2_ := ba_.mk (Kd.cd_ (by (with_reducible repeat (first | apply Kd.la_ | apply Kd.ka_ | apply Kd.ma_)); exact HO114.out) hb); have n3_ := ba_.mk (gb_ (by repeat (first | (with_reducible first | exact HB.out | apply fa_ | apply ca_ | apply ga_) | exact HB.out)) hb); clear HO105; clear HO109; clear HO114; clear HB; have HO105 := n0_; have HO109 := n1_; have HO114 := n2_; have HB := n3_; clear n0_ n1_ n2_ n3_; (try clear hb); (try clear hb2); (try clear hk); (try clear hi)) | ((with_reducible refine yd_ (N := 46) rfl ?_); (try (refine ce_ (by rfl) ?_; dsimp only)); refine Kd.ri_ (Kd.int .i64) _ 3 ?hg (N := 46) ?hd (xs := ([3, 1] : List Int)) (inner := [.int .i64 3, .int .i64 1]) (ok := fun _ => True) (okp := fun _ => True) ?hr ?hp (fun _ hk => hk) trivial (Below.refl _ _) (Nat.le_refl _) (by simp) ?_; (case hd => rfl); (case hg => rfl); (case hr => first | (go_simp; done) | (go_simp; rfl)); (case hp => exact (Reps.one (show Kd.M (Kd.int .i64) _ _ _ 3 [.int .i64 3] from rfl) (Reps.one (show Kd.M (Kd.int .i64) _ _ _ 1 [.int .i64 1] from rfl) (Reps.none _ _)))); intro v119 w21 ho22 hb hg_ hnew_; clear hg_ hnew_; (first | rw [← Ny118.out] at ho22 | (simp only [Int.reduceToNat] at ho22; rw [← Ny118.out] at ho22)); have n0_ := ba_.mk (Kd.wb_ (by (with_reducible repeat (first | apply Kd.la_ | apply Kd.ka_ | apply Kd.ma_)); exact HO105.out) (Kd.rc_ ho22) hb); have n1_ := ba_.mk (Kd.wb_ (by (with_reducible repeat (first | apply Kd.la_ | apply Kd.ka_ | apply Kd.ma_)); exact HO109.out) (Kd.rc_ ho22) hb); have n2_ := ba_.mk (Kd.wb_ (by (with_reducible repeat (first | apply Kd.la_ | apply Kd.ka_ | apply Kd.ma_)); exact HO114.out) (Kd.rc_ ho22) hb); have n3_ := ba_.mk (Kd.wc_ (Kd.qc_ (Kd.qc_ (Kd.qc_ ho22 (Kd.R_lt (by (with_reducible repeat (first | apply Kd.la_ | apply Kd.ka_ | apply Kd.ma_)); exact HO105.out))) (Kd.R_lt (by (with_reducible repeat (first | apply Kd.la_ | apply Kd.ka_ | apply Kd.ma_)); exact HO109.out))) (Kd.R_lt (by (with_reducible repeat (first | apply Kd.la_ | apply Kd.ka_ | apply Kd.ma_)); exact HO114.out))) (eb_ (by repeat (first | (with_reducible first | exact HB.out | apply fa_ | apply ca_ | apply ga_) | exact HB.out)))); have n4_ := ba_.mk (gb_ (by repeat (first | (with_reducible first | exact HB.out | apply fa_ | apply ca_ | apply ga_) | exact HB.out)) hb); clear HO105; clear HO109; clear HO114; clear HB; have HO105 := n0_; have HO109 := n1_; have HO114 := n2_; have HO120 := n3_; have HB := n4_; clear n0_ n1_ n2_ n3_ n4_; clear hb ho22; obtain ⟨Ao23, co23, eo23⟩ := Kd.fc_ HO114.out; subst eo23; obtain ⟨Ao24, co24, eo24⟩ := Kd.fc_ HO120.out; subst eo24) | (go_at_call 29; (with_reducible refine (aa_.calls k _ _ t110 _ _ y118 t121 _ ?side1 ?side2 ?side3 ?side4 A13.out).mono ?_); (case side1 => repeat (first | exact (Kd.ta_ HO114.out).2.2 | (with_reducible refine Kd.yb_ ?_ _) | (with_reducible refine Kd.zb_ ?_ _) | (with_reducible refine Kd.jc_ ?_))); (case side2 => exact (Kd.ta_ HO114.out).2.1); (case side3 => repeat (first | exact (Kd.ta_ HO120.out).2.2 | (with_reducible refine Kd.yb_ ?_ _) | (with_reducible refine Kd.zb_ ?_ _) | (with_reducible refine Kd.jc_ ?_))); (case side4 => exact (Kd.ta_ HO120.out).2.1); rintro e w' ⟨rfl, ⟨nd, rfl⟩⟩))
        go_ret
        exact ⟨by first | rfl | (simp [bb_, cb_] <;> rfl) | (simp [*, bb_, cb_] <;> rfl), by repeat (first | (with_reducible first | exact HB.out | apply fa_ | apply ca_ | apply ga_) | exact HB.out)⟩
       ·rw [if_neg c12] at H
        have c12b0 : (t111 == 0) = false := beq_eq_false_iff_ne.mpr c12
        have c12b1 : (t111 != 0) = true := bne_iff_ne.mpr c12
        exact absurd ((Option.some.inj H).trans HRT.out) (by decide)
      ·rw [if_neg c11] at H
       have c11b0 : (t112 == 0) = false := beq_eq_false_iff_ne.mpr c11
       have c11b1 : (t112 != 0) = true := bne_iff_ne.mpr c11
       exact absurd ((Option.some.inj H).trans HRT.out) (by decide)
     ·replace c10 := Bool.eq_false_iff.mpr c10
      subst c10
      have H1 : (some false) = some r := by rw [if_neg (show ¬ (false = true) by decide)] at H; exact H
      clear H
      have H := H1
      clear H1
      exact absurd ((Option.some.inj H).trans HRT.out) (by decide)
    ·rw [if_neg c8] at H
     have c8b0 : ((t106.length : Int) == 8) = false := beq_eq_false_iff_ne.mpr c8
     try have c8b9 := eq_false (beq_eq_false_iff_ne.mp c8b0)
     have c8b1 : ((t106.length : Int) != 8) = true := bne_iff_ne.mpr c8
     exact absurd ((Option.some.inj H).trans HRT.out) (by decide)
   ·rw [if_neg c7] at H
    have c7b0 : (t107 == 0) = false := beq_eq_false_iff_ne.mpr c7
    have c7b1 : (t107 != 0) = true := bne_iff_ne.mpr c7
    exact absurd ((Option.some.inj H).trans HRT.out) (by decide)
  ·rw [if_neg c6] at H
   have c6b0 : (t116 == 18) = false := beq_eq_false_iff_ne.mpr c6
   have c6b1 : (t116 != 18) = true := bne_iff_ne.mpr c6
   exact absurd ((Option.some.inj H).trans HRT.out) (by decide)
 ·rw [if_neg c4] at H
  have c4b0 : (t115 == 5) = false := beq_eq_false_iff_ne.mpr c4
  have c4b1 : (t115 != 5) = true := bne_iff_ne.mpr c4
  exact absurd ((Option.some.inj H).trans HRT.out) (by decide)
end Go.Proofs.Ytpkhgapifnjbeaa.Y
end
section
namespace Go.Proofs.Ytpkhgapifnjbeaa.Y
open Go.RowKit Go.Proofs.Ytpkhgapifnjbeaa.G Go.Proofs.Ytpkhgapifnjbeaa.Rs Go.Proofs.YtpkhgapifnjbeaaW.PrintWords Go.Proofs.YtpkhgapifnjbeaaW.PrintLast Go.Proofs.YtpkhgapifnjbeaaW.PrintMore
attribute [local go_sem] dd_ fd_ rd_ sd_ uc_ vc_ ed_ gd_
set_option linter.unusedVariables false
set_option linter.unusedSimpArgs false
def ia_ (w0 W : World) (g : Nat) (f0 : List Int) (f1 : Int) : Prop := ∃ A0 c0, W.heap[g]? = some (.cells #[.slice A0 f0.length c0, .int .i64 f1] 48 (0, 0)) ∧ w0.heap.size ≤ g ∧ Kd.C (Kd.int .i64) w0 A0 f0.length f0
theorem ia_.grown {w0 W : World} {g : Nat} {f0 : List Int} {f1 : Int} {W1 : World} {row : Option Nat} (h : ia_ w0 W g f0 f1) (hw : W.grownBy W1 row) (hne : some g ≠ row) : ia_ w0 W1 g f0 f1 := by
 obtain ⟨A0, c0, hb, hg, hr0⟩ := h
 exact ⟨A0, c0, bi_ hb hw hne, hg, hr0⟩
theorem ia_.kept {w0 W : World} {g : Nat} {f0 : List Int} {f1 : Int} {W1 : World} {S : Nat → Prop} (h : ia_ w0 W g f0 f1) (hk : Kept W W1 S) (hne : ¬ S g) : ia_ w0 W1 g f0 f1 := by
 obtain ⟨A0, c0, hb, hg, hr0⟩ := h
 exact ⟨A0, c0, zi_ hb hk hne, hg, hr0⟩
theorem ia_.below {w0 W : World} {g : Nat} {f0 : List Int} {f1 : Int} {W1 : World} (h : ia_ w0 W g f0 f1) (hw : Below W.heap.size W W1) : ia_ w0 W1 g f0 f1 := h.grown (ef_ hw none) (by simp)
theorem ia_.alloc {w0 W : World} {g : Nat} {f0 : List Int} {f1 : Int} (h : ia_ w0 W g f0 f1) (o : Obj) : ia_ w0 (W.alloc o) g f0 f1 := h.below (fa_ (Below.refl _ _) o)
theorem ia_.drewN {w0 W : World} {g : Nat} {f0 : List Int} {f1 : Int} (h : ia_ w0 W g f0 f1) (m : Nat) : ia_ w0 (W.drewN m) g f0 f1 := h
theorem ia_.drew {w0 W : World} {g : Nat} {f0 : List Int} {f1 : Int} (h : ia_ w0 W g f0 f1) : ia_ w0 W.drew g f0 f1 := h
theorem ia_.at_ {w0 W : World} {g : Nat} {f0 : List Int} {f1 : Int} {w' : World} {m : Nat} (hq : W.drewN m = w') (h : ia_ w0 W g f0 f1) : ia_ w0 w' g f0 f1 := by subst hq; exact ia_.drewN h m
theorem ia_.apart {w0 W : World} {g : Nat} {f0 : List Int} {f1 : Int} {α : Type} {d : Kd α} {e : Nat} {base : Nat} {ok : Nat → Prop} {v : Value} {xs : List α} (h : ia_ w0 W g f0 f1) (ho : d.R e W base ok v xs) (ht : ∀ q, q ∈ e :: d.E → q ≠ 48) : d.R e W base (fun k => ok k ∧ k ≠ g) v xs := by
 obtain ⟨A0, c0, hb, hg, hr0⟩ := h
 exact Kd.gj_ ho hb ht
theorem ia_.fe_ {w0 W : World} {g : Nat} {f0 : List Int} {f1 : Int} {α : Type} {d : Kd α} {e : Nat} {base : Nat} {ok : Nat → Prop} {v : Value} {xs : List α} (h : ia_ w0 W g f0 f1) (ho : d.R e W base ok v xs) (ht : e ≠ 48) : some g ≠ v.ownBlock := by
 obtain ⟨A0, c0, hb, hg, hr0⟩ := h
 exact Kd.R_ne ho hb ht
theorem ia_.lt {w0 W : World} {g : Nat} {f0 : List Int} {f1 : Int} (h : ia_ w0 W g f0 f1) : g < W.heap.size := by
 obtain ⟨A0, c0, hb, hg, hr0⟩ := h
 exact qj_ hb
theorem ia_.ge {w0 W : World} {g : Nat} {f0 : List Int} {f1 : Int} (h : ia_ w0 W g f0 f1) : w0.heap.size ≤ g := by
 obtain ⟨A0, c0, hb, hg, hr0⟩ := h
 exact hg
theorem jf_ {W : World} {g : Nat} {A0 : Option Addr} {c0 : Nat} {f0 : List Int} {f1 : Int} (h : W.heap[g]? = some (.cells #[.slice A0 f0.length c0, .int .i64 f1] 48 (0, 0))) : W.cell? ⟨g, 0, none⟩ = some (.slice A0 f0.length c0) := (jh_ h 0).trans rfl
theorem kf_ {W : World} {g : Nat} {A0 : Option Addr} {c0 : Nat} {f0 : List Int} {f1 : Int} (h : W.heap[g]? = some (.cells #[.slice A0 f0.length c0, .int .i64 f1] 48 (0, 0))) : W.cell? ⟨g, 1, none⟩ = some (.int .i64 f1) := (jh_ h 1).trans rfl
theorem ia_.ic_ {w0 W : World} {g : Nat} {f0 : List Int} {f1 : Int} (h : ia_ w0 W g f0 f1) (x : Int) : ia_ w0 (W.setCell ⟨g, 1, none⟩ (.int .i64 x)) g f0 x := by
 obtain ⟨A0, c0, hb, hg, hr0⟩ := h
 exact ⟨A0, c0, by simpa using zk_ hb 1 (.int .i64 x), hg, hr0⟩
def sb_.f (l0 : List Int) : Option (List Int × Int) := if (l0.length : Int) > 600 then (if 600 ≤ (l0.length : Int) then (some (l0.take 600, 0)) else (none)) else (some (l0, 0))
set_option maxHeartbeats 8000000 in
set_option maxRecDepth 100000 in
theorem sb_.calls (A0 : Option Addr) (c0 : Nat) (l0 : List Int) (r1 : List Int) (r2 : Int) (w0 w : World) (hB : Below w0.heap.size w0 w) (hr0 : Kd.C (Kd.int .i64) w0 A0 l0.length l0) (hc0 : l0.length ≤ c0) (h : sb_.f l0 = some (r1, r2)) :
  Calls Try.prog 22 #[.slice A0 l0.length c0] w fun e w' => ∃ g_ : Nat, e = .returned (.pointer (some ⟨g_, 0, none⟩)) ∧ ia_ w0 w' g_ r1 r2 ∧ Below w0.heap.size w0 w' ∧ Below w.heap.size w w' := by
 have hu48 := Try.underlying48
 have HR0 := ba_.mk hr0
 have HC0 := ba_.mk hc0
 clear hr0 hc0
 have HBW := ba_.mk (Below.refl w.heap.size w)
 have HW0 := ba_.mk hB.size
 have HB := ba_.mk hB
 clear hB
 have H : (if (l0.length : Int) > 600 then (if 600 ≤ (l0.length : Int) then (some (l0.take 600, 0)) else (none)) else (some (l0, 0))) = some (r1, r2) := h
 clear h
 by_cases c2 : (l0.length : Int) > 600
 ·rw [if_pos c2] at H
  have c2b0 : decide (600 < (l0.length : Int)) = true := decide_eq_true c2
  have c2b1 : decide (600 < l0.length) = true := decide_eq_true (by omega)
  clear c2
  by_cases c3 : 600 ≤ (l0.length : Int)
  ·rw [if_pos c3] at H
   have c3b0 := eq_true c3
   have c3b1 : decide (600 ≤ (l0.length : Int)) = true := decide_eq_true c3
   clear c3
   simp only [Option.some.injEq, Prod.mk.injEq] at H
   obtain ⟨rfl, rfl⟩ := H
   obtain ⟨i04, hi04, _, hsz4, _⟩ := info_parts te_
   obtain ⟨hcut4, hA4, hC4⟩ := hf_ (P := Try.prog) (Value.int .i64) 0 27 3 .i64 Try.underlying27 hi04 hsz4 A0 c0 l0 600 (by omega) (of_decide_eq_true (by first | (with_reducible assumption) | assumption)) HC0.out
   have HR157 := ba_.mk (Kd.ue_ (h1 := fun _ => rfl) (hA4 _ (Kd.xf_ HR0.out)))
   have HC157 := ba_.mk hC4
   clear hA4 hC4 hi04 hsz4
   go_enter Try.func22, Try.ntmps22
   go_wp2_with (first | ((with_reducible refine yd_ (N := 10) rfl ?_); refine gg_ ?hg (N := 10) ?hd (cs := #[.slice A0 (l0.take 600).length c0, .int .i64 0]) (t := 48) ?hr ?_; (case hd => rfl); (case hg => rfl); (case hr => first | (go_simp; done) | (go_simp; rfl)); intro gb158 hg w5 hbox hb; have n0_ := ba_.mk (gb_ HBW.out hb); have n1_ := ba_.mk (gb_ (by repeat (first | (with_reducible first | exact HB.out | apply fa_ | apply ca_ | apply ga_) | exact HB.out)) hb); have n2_ := ba_.mk (hbox); have n3_ := ba_.mk ((by rw [hg]; exact (eb_ (by repeat (first | (with_reducible first | exact HBW.out | apply fa_ | apply ca_ | apply ga_) | exact HBW.out))) : w.heap.size ≤ gb158)); have n4_ := ba_.mk ((Nat.le_trans HW0.out (by rw [hg]; exact (eb_ (by repeat (first | (with_reducible first | exact HBW.out | apply fa_ | apply ca_ | apply ga_) | exact HBW.out))) : w.heap.size ≤ gb158) : w0.heap.size ≤ gb158)); clear HBW; clear HB; have HBW := n0_; have HB := n1_; have BK158 := n2_; have GW158 := n3_; have GE158 := n4_; clear n0_ n1_ n2_ n3_ n4_; clear hb hbox hg))
   go_ret
   exact ⟨_, rfl, (show ia_ w0 _ gb158 (l0.take 600) 0 from ⟨_, _, by (with_reducible repeat (first | refine fg_ ?_ _ | refine kh_ ?_ | refine eg_ ?_ _)); exact BK158.out, GE158.out, HR157.out⟩), by repeat (first | (with_reducible first | exact HB.out | apply fa_ | apply ca_ | apply ga_ | refine qa_ ?_ GE158.out) | exact HB.out), by repeat (first | (with_reducible first | exact HBW.out | apply fa_ | apply ca_ | apply ga_ | refine qa_ ?_ GW158.out) | exact HBW.out)⟩
  ·rw [if_neg c3] at H
   exact absurd H (by simp)
 ·rw [if_neg c2] at H
  have c2b0 : decide (600 < (l0.length : Int)) = false := decide_eq_false c2
  have c2b1 : decide (600 < l0.length) = false := decide_eq_false (by omega)
  clear c2
  simp only [Option.some.injEq, Prod.mk.injEq] at H
  obtain ⟨rfl, rfl⟩ := H
  go_enter Try.func22, Try.ntmps22
  go_wp2_with (first | ((with_reducible refine yd_ (N := 10) rfl ?_); refine gg_ ?hg (N := 10) ?hd (cs := #[.slice A0 l0.length c0, .int .i64 0]) (t := 48) ?hr ?_; (case hd => rfl); (case hg => rfl); (case hr => first | (go_simp; done) | (go_simp; rfl)); intro gb159 hg w6 hbox hb; have n0_ := ba_.mk (gb_ HBW.out hb); have n1_ := ba_.mk (gb_ (by repeat (first | (with_reducible first | exact HB.out | apply fa_ | apply ca_ | apply ga_) | exact HB.out)) hb); have n2_ := ba_.mk (hbox); have n3_ := ba_.mk ((by rw [hg]; exact (eb_ (by repeat (first | (with_reducible first | exact HBW.out | apply fa_ | apply ca_ | apply ga_) | exact HBW.out))) : w.heap.size ≤ gb159)); have n4_ := ba_.mk ((Nat.le_trans HW0.out (by rw [hg]; exact (eb_ (by repeat (first | (with_reducible first | exact HBW.out | apply fa_ | apply ca_ | apply ga_) | exact HBW.out))) : w.heap.size ≤ gb159) : w0.heap.size ≤ gb159)); clear HBW; clear HB; have HBW := n0_; have HB := n1_; have BK159 := n2_; have GW159 := n3_; have GE159 := n4_; clear n0_ n1_ n2_ n3_ n4_; clear hb hbox hg))
  go_ret
  exact ⟨_, rfl, (show ia_ w0 _ gb159 l0 0 from ⟨_, _, by (with_reducible repeat (first | refine fg_ ?_ _ | refine kh_ ?_ | refine eg_ ?_ _)); exact BK159.out, GE159.out, HR0.out⟩), by repeat (first | (with_reducible first | exact HB.out | apply fa_ | apply ca_ | apply ga_ | refine qa_ ?_ GE159.out) | exact HB.out), by repeat (first | (with_reducible first | exact HBW.out | apply fa_ | apply ca_ | apply ga_ | refine qa_ ?_ GW159.out) | exact HBW.out)⟩
def lb_.f (s0_0 : List Int) (s0_1 : Int) : Option (Int × Int) := if s0_1 ≥ (s0_0.length : Int) then (some (0, s0_1)) else (if 0 ≤ (wrap64 ((wrap64 (s0_1 + 1)) - 1)) then (if (wrap64 ((wrap64 (s0_1 + 1)) - 1)) < (s0_0.length : Int) then (some (rd s0_0 (wrap64 ((wrap64 (s0_1 + 1)) - 1)), wrap64 (s0_1 + 1))) else (none)) else (none))
set_option maxHeartbeats 8000000 in
set_option maxRecDepth 100000 in
theorem lb_.calls (g : Nat) (s0_0 : List Int) (s0_1 : Int) (r1 : Int) (r2 : Int) (w0 w : World) (hI : ia_ w0 w g s0_0 s0_1) (hB : Below w0.heap.size w0 w) (h : lb_.f s0_0 s0_1 = some (r1, r2)) :
  Calls Try.prog 42 #[.pointer (some ⟨g, 0, none⟩)] w fun e w' => e = .returned (.int .i64 r1) ∧ ia_ w0 w' g s0_0 r2 ∧ Below w0.heap.size w0 w' ∧ xa_ w w' g none := by
 have HI0 := ba_.mk hI
 have HK := ba_.mk (xa_.refl w g none)
 have HL := ba_.mk hB.size
 clear hI
 have HW0 := ba_.mk hB.size
 have HB := ba_.mk hB
 clear hB
 have H : (if s0_1 ≥ (s0_0.length : Int) then (some (0, s0_1)) else (if 0 ≤ (wrap64 ((wrap64 (s0_1 + 1)) - 1)) then (if (wrap64 ((wrap64 (s0_1 + 1)) - 1)) < (s0_0.length : Int) then (some (rd s0_0 (wrap64 ((wrap64 (s0_1 + 1)) - 1)), wrap64 (s0_1 + 1))) else (none)) else (none))) = some (r1, r2) := h
 clear h
 by_cases c2 : s0_1 ≥ (s0_0.length : Int)
 ·rw [if_pos c2] at H
  have c2b0 : decide ((s0_0.length : Int) ≤ s0_1) = true := decide_eq_true c2
  clear c2
  simp only [Option.some.injEq, Prod.mk.injEq] at H
  obtain ⟨rfl, rfl⟩ := H
  obtain ⟨ASz3_0, cSz3_0, HGz3, hgz3, HSz3_0⟩ := HI0.out
  have hcz3_0 := jf_ HGz3
  have hcz3_1 := kf_ HGz3
  have hfz3_1 := nf_ HGz3 1
  clear HGz3 hgz3
  go_enter Try.func42, Try.ntmps42
  go_wp2
  repeat (go_quiet (fail); try go_wp2)
  go_ret
  exact ⟨by first | rfl | (simp [bb_, cb_] <;> rfl) | (simp [*, bb_, cb_] <;> rfl), by repeat (first | (with_reducible first | exact HI0.out | apply ia_.alloc | apply ia_.drewN | apply ia_.drew | apply ia_.ic_) | exact HI0.out), by repeat (first | (with_reducible first | exact HB.out | apply fa_ | apply ca_ | apply ga_ | refine qa_ ?_ (ia_.ge HI0.out)) | exact HB.out), by repeat (first | (with_reducible first | exact HK.out | apply xa_.set_ | apply kb_ | apply rb_ | apply jb_) | exact HK.out)⟩
 ·rw [if_neg c2] at H
  have c2b0 : decide ((s0_0.length : Int) ≤ s0_1) = false := decide_eq_false c2
  clear c2
  obtain ⟨ji4, hji4⟩ : ∃ j_ : Int, (wrap64 ((wrap64 (s0_1 + 1)) - 1)) = j_ := ⟨_, rfl⟩
  replace H : (if 0 ≤ (ji4) then (if (ji4) < (s0_0.length : Int) then (some (rd s0_0 (ji4), wrap64 (s0_1 + 1))) else (none)) else (none)) = some (r1, r2) := by first | (rw [hji4] at H; exact H) | (simp only [hji4] at H ⊢; exact H)
  have hji4w : (IntKind.i64.wrap ((wrap64 (s0_1 + 1)) - 1)) = ji4 := (gc_ _).trans hji4
  by_cases c5 : 0 ≤ (ji4)
  ·rw [if_pos c5] at H
   have c5b0 : decide (0 ≤ (ji4)) = true := decide_eq_true c5
   clear c5
   by_cases c6 : (ji4) < (s0_0.length : Int)
   ·rw [if_pos c6] at H
    have c6b0 : decide ((ji4) < (s0_0.length : Int)) = true := decide_eq_true c6
    clear c6
    simp only [Option.some.injEq, Prod.mk.injEq] at H
    obtain ⟨rfl, rfl⟩ := H
    obtain ⟨ASz7_0, cSz7_0, HGz7, hgz7, HSz7_0⟩ := HI0.out
    have hcz7_0 := jf_ HGz7
    have hcz7_1 := kf_ HGz7
    have hfz7_1 := nf_ HGz7 1
    clear HGz7 hgz7
    have p160 : 0 ≤ ((ji4) : Int) := of_decide_eq_true (by first | (with_reducible assumption) | assumption)
    have q160 : (ji4) < (s0_0.length : Int) := of_decide_eq_true (by first | (with_reducible assumption) | assumption)
    obtain ⟨ad160, e160, hx160_0⟩ := Kd.nd_ HSz7_0 (ji4) p160 q160
    cases e160
    have hn160_0 : ad160.block ≠ g := Nat.ne_of_lt (Nat.lt_of_lt_of_le (by have := World.block_lt_of_cell? _ _ hx160_0; first | rwa [ae_] at this | exact this) (ia_.ge HI0.out))
    replace hx160_0 := rf_ HB.out hx160_0
    replace hx160_0 := (cell_far (p := ⟨g, 1, none⟩) (by first | (rw [ae_]; exact hn160_0) | (show (Addr.add _ _).block ≠ _; rw [ae_]; exact hn160_0) | exact hn160_0) (.int .i64 (wrap64 (s0_1 + 1)))).trans hx160_0
    (try have hy160_0 := fun (n_ : Nat) => (show (((w.drewN n_).setCell ⟨g, 1, none⟩ (.int .i64 (wrap64 (s0_1 + 1))))).cell? _ = some _ from hx160_0))
    clear hn160_0
    replace p160 := eq_true p160
    replace q160 := eq_true q160
    go_enter Try.func42, Try.ntmps42
    go_wp2
    repeat (go_quiet (fail); try go_wp2)
    go_ret
    exact ⟨by first | rfl | (simp [bb_, cb_] <;> rfl) | (simp only [← hji4]; first | rfl | (simp [bb_, cb_] <;> rfl)) | (simp [*, bb_, cb_] <;> rfl), by repeat (first | (with_reducible first | exact HI0.out | apply ia_.alloc | apply ia_.drewN | apply ia_.drew | apply ia_.ic_) | exact HI0.out), by repeat (first | (with_reducible first | exact HB.out | apply fa_ | apply ca_ | apply ga_ | refine qa_ ?_ (ia_.ge HI0.out)) | exact HB.out), by repeat (first | (with_reducible first | exact HK.out | apply xa_.set_ | apply kb_ | apply rb_ | apply jb_) | exact HK.out)⟩
   ·rw [if_neg c6] at H
    exact absurd H (by simp)
  ·rw [if_neg c5] at H
   exact absurd H (by simp)
def na_.f (s0_0 : List Int) (s0_1 : Int) (a1 : Int) : Option (Int × Int) := (lb_.f s0_0 s0_1).bind fun bt161 => ((ab_.f bt161.1 a1).bind fun t163 => (some (t163, bt161.2)))
set_option maxHeartbeats 8000000 in
set_option maxRecDepth 100000 in
theorem na_.calls (g : Nat) (s0_0 : List Int) (s0_1 : Int) (a1 : Int) (r1 : Int) (r2 : Int) (w0 w : World) (hI : ia_ w0 w g s0_0 s0_1) (hB : Below w0.heap.size w0 w) (h : na_.f s0_0 s0_1 a1 = some (r1, r2)) :
  Calls Try.prog 26 #[.pointer (some ⟨g, 0, none⟩), .int .i64 a1] w fun e w' => e = .returned (.int .i64 r1) ∧ ia_ w0 w' g s0_0 r2 ∧ Below w0.heap.size w0 w' ∧ xa_ w w' g none := by
 have HI0 := ba_.mk hI
 have HK := ba_.mk (xa_.refl w g none)
 have HL := ba_.mk hB.size
 clear hI
 have HW0 := ba_.mk hB.size
 have HB := ba_.mk hB
 clear hB
 have H : ((lb_.f s0_0 s0_1).bind fun bt161 => ((ab_.f bt161.1 a1).bind fun t163 => (some (t163, bt161.2)))) = some (r1, r2) := h
 clear h
 replace H := Option.bind_eq_some_iff.mp H
 obtain ⟨⟨t161, t162⟩, A30, H⟩ := H
 replace H : ((ab_.f t161 a1).bind fun t163 => (some (t163, t162))) = some (r1, r2) := H
 have A3 := ba_.mk A30
 clear A30
 replace H := Option.bind_eq_some_iff.mp H
 obtain ⟨t163, A40, H⟩ := H
 replace H : (some (t163, t162)) = some (r1, r2) := H
 have A4 := ba_.mk A40
 clear A40
 simp only [Option.some.injEq, Prod.mk.injEq] at H
 obtain ⟨rfl, rfl⟩ := H
 go_enter Try.func26, Try.ntmps26
 go_wp2_with (first | ((with_reducible refine ua_ (f := 42) rfl ?_); refine hc_ (some 6) rfl rfl Try.func42 (by kernel_rfl) rfl #[.pointer (some ⟨g, 0, none⟩)] rfl (by (try simp only [List.map_toArray, List.map_cons, List.map_nil]); first | done | rfl | (simp only [List.length_drop, List.length_take]; rfl)) ?_; (with_reducible refine (lb_.calls g s0_0 s0_1 t161 t162 w0 _ ?side1 ?side2 A3.out).mono ?_); (case side1 => repeat (first | (with_reducible first | exact HI0.out | apply ia_.alloc | apply ia_.drewN | apply ia_.drew | apply ia_.ic_) | exact HI0.out)); (case side2 => repeat (first | (with_reducible first | exact HB.out | apply fa_ | apply ca_ | apply ga_ | refine qa_ ?_ (ia_.ge HI0.out)) | exact HB.out)); rintro e w5 ⟨rfl, hi, hb, hk⟩; refine ⟨_, rfl, ?_⟩; have n0_ := ba_.mk (xa_.trans (by repeat (first | (with_reducible first | exact HK.out | apply xa_.set_ | apply kb_ | apply rb_ | apply jb_) | exact HK.out)) hk (.inl rfl)); have n1_ := ba_.mk (hb); have n2_ := ba_.mk (hi); clear HK; clear HB; clear HI0; have HK := n0_; have HB := n1_; have HI0 := n2_; clear n0_ n1_ n2_; (try clear hb); (try clear hb2); (try clear hk); (try clear hi)) | ((with_reducible refine ua_ (f := 14) rfl ?_); refine hc_ (some 8) rfl rfl Try.func14 (by kernel_rfl) rfl #[.int .i64 t161, .int .i64 a1] rfl (by (try simp only [List.map_toArray, List.map_cons, List.map_nil]); first | done | rfl | (simp only [List.length_drop, List.length_take]; rfl)) ?_; (with_reducible refine (ab_.calls t161 a1 t163 _ A4.out).mono ?_); rintro e w' ⟨rfl, ⟨nd, rfl⟩⟩; refine ⟨_, rfl, ?_⟩))
 go_ret
 exact ⟨by first | rfl | (simp [bb_, cb_] <;> rfl) | (simp [*, bb_, cb_] <;> rfl), by repeat (first | (with_reducible first | exact HI0.out | apply ia_.alloc | apply ia_.drewN | apply ia_.drew | apply ia_.ic_) | exact HI0.out), by repeat (first | (with_reducible first | exact HB.out | apply fa_ | apply ca_ | apply ga_ | refine qa_ ?_ (ia_.ge HI0.out)) | exact HB.out), by repeat (first | (with_reducible first | exact HK.out | apply xa_.set_ | apply kb_ | apply rb_ | apply jb_) | exact HK.out)⟩
def oa_.f (s0_0 : List Int) (s0_1 : Int) (a1 : Int) (a2 : Int) : Option (Int × Int) := (na_.f s0_0 s0_1 (wrap64 ((wrap64 (a2 - a1)) + 1))).bind fun bt164 => (some (wrap64 (a1 + bt164.1), bt164.2))
set_option maxHeartbeats 8000000 in
set_option maxRecDepth 100000 in
theorem oa_.calls (g : Nat) (s0_0 : List Int) (s0_1 : Int) (a1 : Int) (a2 : Int) (r1 : Int) (r2 : Int) (w0 w : World) (hI : ia_ w0 w g s0_0 s0_1) (hB : Below w0.heap.size w0 w) (h : oa_.f s0_0 s0_1 a1 a2 = some (r1, r2)) :
  Calls Try.prog 31 #[.pointer (some ⟨g, 0, none⟩), .int .i64 a1, .int .i64 a2] w fun e w' => e = .returned (.int .i64 r1) ∧ ia_ w0 w' g s0_0 r2 ∧ Below w0.heap.size w0 w' ∧ xa_ w w' g none := by
 have HI0 := ba_.mk hI
 have HK := ba_.mk (xa_.refl w g none)
 have HL := ba_.mk hB.size
 clear hI
 have HW0 := ba_.mk hB.size
 have HB := ba_.mk hB
 clear hB
 have H : ((na_.f s0_0 s0_1 (wrap64 ((wrap64 (a2 - a1)) + 1))).bind fun bt164 => (some (wrap64 (a1 + bt164.1), bt164.2))) = some (r1, r2) := h
 clear h
 replace H := Option.bind_eq_some_iff.mp H
 obtain ⟨⟨t164, t165⟩, A40, H⟩ := H
 replace H : (some (wrap64 (a1 + t164), t165)) = some (r1, r2) := H
 have A4 := ba_.mk A40
 clear A40
 simp only [Option.some.injEq, Prod.mk.injEq] at H
 obtain ⟨rfl, rfl⟩ := H
 go_enter Try.func31, Try.ntmps31
 go_wp2_with (first | ((with_reducible refine ua_ (f := 26) rfl ?_); refine hc_ (some 13) rfl rfl Try.func26 (by kernel_rfl) rfl #[.pointer (some ⟨g, 0, none⟩), .int .i64 (wrap64 ((wrap64 (a2 - a1)) + 1))] rfl (by (try simp only [List.map_toArray, List.map_cons, List.map_nil]); first | done | rfl | (simp only [List.length_drop, List.length_take]; rfl)) ?_; (with_reducible refine (na_.calls g s0_0 s0_1 (wrap64 ((wrap64 (a2 - a1)) + 1)) t164 t165 w0 _ ?side1 ?side2 A4.out).mono ?_); (case side1 => repeat (first | (with_reducible first | exact HI0.out | apply ia_.alloc | apply ia_.drewN | apply ia_.drew | apply ia_.ic_) | exact HI0.out)); (case side2 => repeat (first | (with_reducible first | exact HB.out | apply fa_ | apply ca_ | apply ga_ | refine qa_ ?_ (ia_.ge HI0.out)) | exact HB.out)); rintro e w5 ⟨rfl, hi, hb, hk⟩; refine ⟨_, rfl, ?_⟩; have n0_ := ba_.mk (xa_.trans (by repeat (first | (with_reducible first | exact HK.out | apply xa_.set_ | apply kb_ | apply rb_ | apply jb_) | exact HK.out)) hk (.inl rfl)); have n1_ := ba_.mk (hb); have n2_ := ba_.mk (hi); clear HK; clear HB; clear HI0; have HK := n0_; have HB := n1_; have HI0 := n2_; clear n0_ n1_ n2_; (try clear hb); (try clear hb2); (try clear hk); (try clear hi)))
 go_ret
 exact ⟨by first | rfl | (simp [bb_, cb_] <;> rfl) | (simp [*, bb_, cb_] <;> rfl), by repeat (first | (with_reducible first | exact HI0.out | apply ia_.alloc | apply ia_.drewN | apply ia_.drew | apply ia_.ic_) | exact HI0.out), by repeat (first | (with_reducible first | exact HB.out | apply fa_ | apply ca_ | apply ga_ | refine qa_ ?_ (ia_.ge HI0.out)) | exact HB.out), by repeat (first | (with_reducible first | exact HK.out | apply xa_.set_ | apply kb_ | apply rb_ | apply jb_) | exact HK.out)⟩
end Go.Proofs.Ytpkhgapifnjbeaa.Y
end
section
namespace Go.Proofs.Ytpkhgapifnjbeaa.Y
open Go.RowKit Go.Proofs.Ytpkhgapifnjbeaa.G Go.Proofs.Ytpkhgapifnjbeaa.Rs Go.Proofs.YtpkhgapifnjbeaaW.PrintWords Go.Proofs.YtpkhgapifnjbeaaW.PrintLast Go.Proofs.YtpkhgapifnjbeaaW.PrintMore
attribute [local go_sem] dd_ fd_ rd_ sd_ uc_ vc_ ed_ gd_
set_option linter.unusedVariables false
set_option linter.unusedSimpArgs false
mutual
def pa_.l0 : Nat → List Int → List Int → List Int → Int → Int → List Int → Int → Option (Bool)
 | 0, _, _, _, _, _, _, _ => none
 | k + 1, x6, x7, x8, x9, x10, x329000, x329001 => if x10 > 0 then ((na_.f x329000 x329001 32).bind fun bt331 => ((na_.f x329000 bt331.2 32).bind fun bt333 => (if x6.length < 17592186044416 then (if x7.length < 17592186044416 then ((ud_.f bt331.1 x9).bind fun t341 => (if x8.length < 17592186044416 then (pa_.l0 k (x6 ++ [bt331.1]) (x7 ++ [bt333.1]) (x8 ++ [Go.bits .xor .i64 t341 bt333.1]) x9 (wrap64 (x10 - 1)) x329000 bt333.2) else (none))) else (none)) else (none)))) else ((ge_.f x6).bind fun bt345 => ((ge_.f x7).bind fun bt349 => ((ge_.f x8).bind fun bt353 => (if bt345.2 = 0 then (if bt349.2 = 0 then (if bt353.2 = 0 then (if (bt345.1.length : Int) = (bt349.1.length : Int) then (if (bt349.1.length : Int) = (bt353.1.length : Int) then (pa_.j1 k x6 x9 bt345.1 bt349.1 bt353.1 ((bt345.1.length : Int) != (wrap64 ((x6.length : Int) + 6)))) else (pa_.j1 k x6 x9 bt345.1 bt349.1 bt353.1 true)) else (pa_.j1 k x6 x9 bt345.1 bt349.1 bt353.1 true)) else (pa_.j1 k x6 x9 bt345.1 bt349.1 bt353.1 true)) else (pa_.j1 k x6 x9 bt345.1 bt349.1 bt353.1 true)) else (pa_.j1 k x6 x9 bt345.1 bt349.1 bt353.1 true)))))
def pa_.j1 : Nat → List Int → Int → List Int → List Int → List Int → Bool → Option (Bool)
 | 0, _, _, _, _, _, _ => none
 | k + 1, x6, x9, x13, x15, x17, x97 => if x97 = true then (some false) else (pa_.l1 k x6 x9 x13 x15 x17 0)
def pa_.l1 : Nat → List Int → Int → List Int → List Int → List Int → Int → Option (Bool)
 | 0, _, _, _, _, _, _ => none
 | k + 1, x6, x9, x13, x15, x17, x19 => if x19 < (x13.length : Int) then (if 0 ≤ x19 then (if x19 < (x17.length : Int) then ((ud_.f (rd x13 x19) x9).bind fun t359 => (if x19 < (x15.length : Int) then (if (rd x17 x19) = (Go.bits .xor .i64 t359 (rd x15 x19)) then (pa_.l1 k x6 x9 x13 x15 x17 (wrap64 (x19 + 1))) else (some false)) else (none))) else (none)) else (none)) else ((ee_.f x13).bind fun t361 => (if t361 = true then ((ee_.f x17).bind fun t362 => (if t362 = true then (if 0 ≤ (x6.length : Int) then (if (x6.length : Int) ≤ (x13.length : Int) then ((aa_.f k (x13.take ((x6.length : Int) : Int).toNat) x6).bind fun t367 => (if t367 = true then ((ha_.f k).bind fun t368 => (some t368)) else (some false))) else (none)) else (none)) else (some false))) else (some false)))
end
def pa_.f (k : Nat) (l0 : List Int) (a1 : Int) : Option (Bool) := (sb_.f l0).bind fun bt326 => ((oa_.f bt326.1 bt326.2 1 9).bind fun bt329 => (pa_.l0 k ([] : List Int) ([] : List Int) ([] : List Int) (wrap64 (Int.tmod a1 32)) bt329.1 bt326.1 bt329.2))
theorem pa_.xc_ : ∀ k, (∀ y0 y1 y2 y3 y4 y5 y6, LeO (pa_.l0 k y0 y1 y2 y3 y4 y5 y6) (pa_.l0 (k + 1) y0 y1 y2 y3 y4 y5 y6)) ∧ (∀ y0 y1 y2 y3 y4 y5, LeO (pa_.j1 k y0 y1 y2 y3 y4 y5) (pa_.j1 (k + 1) y0 y1 y2 y3 y4 y5)) ∧ (∀ y0 y1 y2 y3 y4 y5, LeO (pa_.l1 k y0 y1 y2 y3 y4 y5) (pa_.l1 (k + 1) y0 y1 y2 y3 y4 y5))
 | 0 => ⟨fun _ _ _ _ _ _ _ r h => by simp [pa_.l0] at h, fun _ _ _ _ _ _ r h => by simp [pa_.j1] at h, fun _ _ _ _ _ _ r h => by simp [pa_.l1] at h⟩
 | k + 1 => by
  obtain ⟨ih0, ih1, ih2⟩ := pa_.xc_ k
  refine ⟨?_, ?_, ?_⟩
  ·intro y0 y1 y2 y3 y4 y5 y6
   unfold pa_.l0
   repeat' first
   | (with_reducible exact ih0 _ _ _ _ _ _ _)
   | (with_reducible exact ih1 _ _ _ _ _ _)
   | (with_reducible exact ih2 _ _ _ _ _ _)
   | (with_reducible exact ha_.mono _)
   | (with_reducible exact aa_.mono _ _ _)
   | (with_reducible exact LeO.refl _)
   | (with_reducible exact LeO.none _)
   | (with_reducible refine LeO.ite ?_ ?_)
   | (with_reducible refine LeO.bind ?_ (fun _ => ?_))
   | exact ih0 _ _ _ _ _ _ _
   | exact ih1 _ _ _ _ _ _
   | exact ih2 _ _ _ _ _ _
   | exact ha_.mono _
   | exact aa_.mono _ _ _
   | exact LeO.none _
   | refine LeO.ite ?_ ?_
   | refine LeO.bind ?_ (fun _ => ?_)
  ·intro y0 y1 y2 y3 y4 y5
   unfold pa_.j1
   repeat' first
   | (with_reducible exact ih0 _ _ _ _ _ _ _)
   | (with_reducible exact ih1 _ _ _ _ _ _)
   | (with_reducible exact ih2 _ _ _ _ _ _)
   | (with_reducible exact ha_.mono _)
   | (with_reducible exact aa_.mono _ _ _)
   | (with_reducible exact LeO.refl _)
   | (with_reducible exact LeO.none _)
   | (with_reducible refine LeO.ite ?_ ?_)
   | (with_reducible refine LeO.bind ?_ (fun _ => ?_))
   | exact ih0 _ _ _ _ _ _ _
   | exact ih1 _ _ _ _ _ _
   | exact ih2 _ _ _ _ _ _
   | exact ha_.mono _
   | exact aa_.mono _ _ _
   | exact LeO.none _
   | refine LeO.ite ?_ ?_
   | refine LeO.bind ?_ (fun _ => ?_)
  ·intro y0 y1 y2 y3 y4 y5
   unfold pa_.l1
   repeat' first
   | (with_reducible exact ih0 _ _ _ _ _ _ _)
   | (with_reducible exact ih1 _ _ _ _ _ _)
   | (with_reducible exact ih2 _ _ _ _ _ _)
   | (with_reducible exact ha_.mono _)
   | (with_reducible exact aa_.mono _ _ _)
   | (with_reducible exact LeO.refl _)
   | (with_reducible exact LeO.none _)
   | (with_reducible refine LeO.ite ?_ ?_)
   | (with_reducible refine LeO.bind ?_ (fun _ => ?_))
   | exact ih0 _ _ _ _ _ _ _
   | exact ih1 _ _ _ _ _ _
   | exact ih2 _ _ _ _ _ _
   | exact ha_.mono _
   | exact aa_.mono _ _ _
   | exact LeO.none _
   | refine LeO.ite ?_ ?_
   | refine LeO.bind ?_ (fun _ => ?_)
theorem pa_.mono : ∀ a0 a1 k, LeO (pa_.f k a0 a1) (pa_.f (k + 1) a0 a1) := by
 intro a0 a1 k
 obtain ⟨ih0, ih1, ih2⟩ := pa_.xc_ k
 unfold pa_.f
 repeat' first
   | (with_reducible exact ih0 _ _ _ _ _ _ _)
   | (with_reducible exact ih1 _ _ _ _ _ _)
   | (with_reducible exact ih2 _ _ _ _ _ _)
   | (with_reducible exact ha_.mono _)
   | (with_reducible exact aa_.mono _ _ _)
   | (with_reducible exact LeO.refl _)
   | (with_reducible exact LeO.none _)
   | (with_reducible refine LeO.ite ?_ ?_)
   | (with_reducible refine LeO.bind ?_ (fun _ => ?_))
   | exact ih0 _ _ _ _ _ _ _
   | exact ih1 _ _ _ _ _ _
   | exact ih2 _ _ _ _ _ _
   | exact ha_.mono _
   | exact aa_.mono _ _ _
   | exact LeO.none _
   | refine LeO.ite ?_ ?_
   | refine LeO.bind ?_ (fun _ => ?_)
set_option maxHeartbeats 8000000 in
set_option maxRecDepth 100000 in
theorem pa_.calls (k : Nat) (A0 : Option Addr) (c0 : Nat) (l0 : List Int) (a1 : Int) (r : Bool) (w : World) (hr0 : Kd.C (Kd.int .i64) w A0 l0.length l0) (hc0 : l0.length ≤ c0) (h : pa_.f k l0 a1 = some r) (hr_ : r = true) :
  Calls Try.prog 11 #[.slice A0 l0.length c0, .int .u8 a1] w fun e w' => e = .returned (.bool r) ∧ Below w.heap.size w w' := by
 have HRT := ba_.mk hr_
 clear hr_
 have HR0 := ba_.mk hr0
 have HC0 := ba_.mk hc0
 clear hr0 hc0
 have HB := ba_.mk (Below.refl w.heap.size w)
 have H : ((sb_.f l0).bind fun bt326 => ((oa_.f bt326.1 bt326.2 1 9).bind fun bt329 => (pa_.l0 k ([] : List Int) ([] : List Int) ([] : List Int) (wrap64 (Int.tmod a1 32)) bt329.1 bt326.1 bt329.2))) = some r := h
 clear h
 replace H := Option.bind_eq_some_iff.mp H
 obtain ⟨⟨t326, t327⟩, A30, H⟩ := H
 replace H : ((oa_.f t326 t327 1 9).bind fun bt329 => (pa_.l0 k ([] : List Int) ([] : List Int) ([] : List Int) (wrap64 (Int.tmod a1 32)) bt329.1 t326 bt329.2)) = some r := H
 have A3 := ba_.mk A30
 clear A30
 replace H := Option.bind_eq_some_iff.mp H
 obtain ⟨⟨t329, t330⟩, A40, H⟩ := H
 replace H : (pa_.l0 k ([] : List Int) ([] : List Int) ([] : List Int) (wrap64 (Int.tmod a1 32)) t329 t326 t330) = some r := H
 have A4 := ba_.mk A40
 clear A40
 have H' := ba_.mk H
 clear H
 go_enter Try.func11, Try.ntmps11
 go_wp2_with (first | (go_at_call 22; (with_reducible refine (sb_.calls _ _ l0 t326 t327 w _ ?side1 ?side2 ?side3 A3.out).mono ?_); (case side1 => repeat (first | (with_reducible first | exact HB.out | apply fa_ | apply ca_ | apply ga_) | exact HB.out)); (case side2 => exact HR0.out); (case side3 => exact HC0.out); rintro e w5 ⟨g328, rfl, hi, hb, hb2⟩; have n0_ := ba_.mk (hb); have n1_ := ba_.mk (hi); clear HB; have HB := n0_; have HI328 := n1_; clear n0_ n1_; (try clear hb); (try clear hb2); (try clear hk); (try clear hi)) | (go_at_call 31; (with_reducible refine (oa_.calls g328 t326 t327 1 9 t329 t330 w _ ?side1 ?side2 A4.out).mono ?_); (case side1 => repeat (first | (with_reducible first | exact HI328.out | apply ia_.alloc | apply ia_.drewN | apply ia_.drew | apply ia_.ic_) | exact HI328.out)); (case side2 => repeat (first | (with_reducible first | exact HB.out | apply fa_ | apply ca_ | apply ga_ | refine qa_ ?_ (ia_.ge HI328.out)) | exact HB.out)); rintro e w6 ⟨rfl, hi, hb, hk⟩; have n0_ := ba_.mk (hb); have n1_ := ba_.mk (hi); clear HB; clear HI328; have HB := n0_; have HI328 := n1_; clear n0_ n1_; (try clear hb); (try clear hb2); (try clear hk); (try clear hi)))
 repeat (go_quiet (first | (go_at_call 22; (with_reducible refine (sb_.calls _ _ l0 t326 t327 w _ ?side1 ?side2 ?side3 A3.out).mono ?_); (case side1 => repeat (first | (with_reducible first | exact HB.out | apply fa_ | apply ca_ | apply ga_) | exact HB.out)); (case side2 => exact HR0.out); (case side3 => exact HC0.out); rintro e w5 ⟨g328, rfl, hi, hb, hb2⟩; have n0_ := ba_.mk (hb); have n1_ := ba_.mk (hi); clear HB; have HB := n0_; have HI328 := n1_; clear n0_ n1_; (try clear hb); (try clear hb2); (try clear hk); (try clear hi)) | (go_at_call 31; (with_reducible refine (oa_.calls g328 t326 t327 1 9 t329 t330 w _ ?side1 ?side2 A4.out).mono ?_); (case side1 => repeat (first | (with_reducible first | exact HI328.out | apply ia_.alloc | apply ia_.drewN | apply ia_.drew | apply ia_.ic_) | exact HI328.out)); (case side2 => repeat (first | (with_reducible first | exact HB.out | apply fa_ | apply ca_ | apply ga_ | refine qa_ ?_ (ia_.ge HI328.out)) | exact HB.out)); rintro e w6 ⟨rfl, hi, hb, hk⟩; have n0_ := ba_.mk (hb); have n1_ := ba_.mk (hi); clear HB; clear HI328; have HB := n0_; have HI328 := n1_; clear n0_ n1_; (try clear hb); (try clear hb2); (try clear hk); (try clear hi))); try go_wp2_with (first | (go_at_call 22; (with_reducible refine (sb_.calls _ _ l0 t326 t327 w _ ?side1 ?side2 ?side3 A3.out).mono ?_); (case side1 => repeat (first | (with_reducible first | exact HB.out | apply fa_ | apply ca_ | apply ga_) | exact HB.out)); (case side2 => exact HR0.out); (case side3 => exact HC0.out); rintro e w5 ⟨g328, rfl, hi, hb, hb2⟩; have n0_ := ba_.mk (hb); have n1_ := ba_.mk (hi); clear HB; have HB := n0_; have HI328 := n1_; clear n0_ n1_; (try clear hb); (try clear hb2); (try clear hk); (try clear hi)) | (go_at_call 31; (with_reducible refine (oa_.calls g328 t326 t327 1 9 t329 t330 w _ ?side1 ?side2 A4.out).mono ?_); (case side1 => repeat (first | (with_reducible first | exact HI328.out | apply ia_.alloc | apply ia_.drewN | apply ia_.drew | apply ia_.ic_) | exact HI328.out)); (case side2 => repeat (first | (with_reducible first | exact HB.out | apply fa_ | apply ca_ | apply ga_ | refine qa_ ?_ (ia_.ge HI328.out)) | exact HB.out)); rintro e w6 ⟨rfl, hi, hb, hk⟩; have n0_ := ba_.mk (hb); have n1_ := ba_.mk (hi); clear HB; clear HI328; have HB := n0_; have HI328 := n1_; clear n0_ n1_; (try clear hb); (try clear hb2); (try clear hk); (try clear hi))))
 go_loopg [6, 7, 8, 10] k (fun kq v6 v7 v8 v10 w' => ∃ (x6_1 : List Int) (x7_1 : List Int) (x8_1 : List Int) (x10_1 : Int) (x329001_1 : Int), v10 = .int .i64 x10_1 ∧ ba_ (pa_.l0 kq x6_1 x7_1 x8_1 (wrap64 (Int.tmod a1 32)) x10_1 t326 x329001_1 = some r) ∧ ba_ (kq ≤ k) ∧ ba_ (Kd.R (Kd.int .i64) 3 w' w.heap.size (fun k_ => some k_ ≠ (v7 : Value).ownBlock ∧ some k_ ≠ (v8 : Value).ownBlock) v6 x6_1) ∧ ba_ (Kd.R (Kd.int .i64) 3 w' w.heap.size (fun k_ => some k_ ≠ (v6 : Value).ownBlock ∧ some k_ ≠ (v8 : Value).ownBlock) v7 x7_1) ∧ ba_ (Kd.R (Kd.int .i64) 3 w' w.heap.size (fun k_ => some k_ ≠ (v6 : Value).ownBlock ∧ some k_ ≠ (v7 : Value).ownBlock) v8 x8_1) ∧ ba_ (ia_ w w' g328 t326 x329001_1) ∧ ba_ (Below w.heap.size w w'))
 case atStart => exact ⟨(([] : List Int)), (([] : List Int)), (([] : List Int)), (t329), (t330), (by first | rfl | (simp; done) | (simp [*]; done)), H', ⟨Nat.le_refl _⟩, ⟨by first | exact Kd.uf_ _ _ _ _ _ | exact Kd.mh_ _ _ _ _ _ | exact Kd.ph_ _ _ _ _ _ | exact Kd.nh_ _ _ _ _ _ | exact Kd.oh_ _ _ _ _ _⟩, ⟨by first | exact Kd.uf_ _ _ _ _ _ | exact Kd.mh_ _ _ _ _ _ | exact Kd.ph_ _ _ _ _ _ | exact Kd.nh_ _ _ _ _ _ | exact Kd.oh_ _ _ _ _ _⟩, ⟨by first | exact Kd.uf_ _ _ _ _ _ | exact Kd.mh_ _ _ _ _ _ | exact Kd.ph_ _ _ _ _ _ | exact Kd.nh_ _ _ _ _ _ | exact Kd.oh_ _ _ _ _ _⟩, ⟨by repeat (first | (with_reducible first | exact HI328.out | apply ia_.alloc | apply ia_.drewN | apply ia_.drew | apply ia_.ic_) | exact HI328.out)⟩, ⟨by repeat (first | (with_reducible first | exact HB.out | apply fa_ | apply ca_ | apply ga_ | refine qa_ ?_ (ia_.ge HI328.out)) | exact HB.out)⟩⟩
 case round =>
  clear H'
  try clear c1
  try clear p2
  try clear p6
  obtain ⟨x6_1, x7_1, x8_1, x10_1, x329001_1, rfl, HA, HK1, HO_6, HO_7, HO_8, HI328, HB⟩ := hrel
  cases gk with
  | zero => exact absurd HA.out (by simp [pa_.l0])
  | succ k1 =>
   have H := HA.out
   clear HA
   simp only [pa_.l0] at H
   by_cases c7 : x10_1 > 0
   ·rw [if_pos c7] at H
    have c7b0 : decide (0 < x10_1) = true := decide_eq_true c7
    clear c7
    replace H := Option.bind_eq_some_iff.mp H
    obtain ⟨⟨t331, t332⟩, A80, H⟩ := H
    replace H : ((na_.f t326 t332 32).bind fun bt333 => (if x6_1.length < 17592186044416 then (if x7_1.length < 17592186044416 then ((ud_.f t331 (wrap64 (Int.tmod a1 32))).bind fun t341 => (if x8_1.length < 17592186044416 then (pa_.l0 k1 (x6_1 ++ [t331]) (x7_1 ++ [bt333.1]) (x8_1 ++ [Go.bits .xor .i64 t341 bt333.1]) (wrap64 (Int.tmod a1 32)) (wrap64 (x10_1 - 1)) t326 bt333.2) else (none))) else (none)) else (none))) = some r := H
    have A8 := ba_.mk A80
    clear A80
    replace H := Option.bind_eq_some_iff.mp H
    obtain ⟨⟨t333, t334⟩, A90, H⟩ := H
    replace H : (if x6_1.length < 17592186044416 then (if x7_1.length < 17592186044416 then ((ud_.f t331 (wrap64 (Int.tmod a1 32))).bind fun t341 => (if x8_1.length < 17592186044416 then (pa_.l0 k1 (x6_1 ++ [t331]) (x7_1 ++ [t333]) (x8_1 ++ [Go.bits .xor .i64 t341 t333]) (wrap64 (Int.tmod a1 32)) (wrap64 (x10_1 - 1)) t326 t334) else (none))) else (none)) else (none)) = some r := H
    have A9 := ba_.mk A90
    clear A90
    by_cases c10 : x6_1.length < 17592186044416
    ·rw [if_pos c10] at H
     have LMc10 := ba_.mk c10
     clear c10
     obtain ⟨y335, hy335⟩ : ∃ y_ : List Int, y_ = (x6_1 ++ [t331]) := ⟨_, rfl⟩
     replace H : (if x7_1.length < 17592186044416 then ((ud_.f t331 (wrap64 (Int.tmod a1 32))).bind fun t341 => (if x8_1.length < 17592186044416 then (pa_.l0 k1 y335 (x7_1 ++ [t333]) (x8_1 ++ [Go.bits .xor .i64 t341 t333]) (wrap64 (Int.tmod a1 32)) (wrap64 (x10_1 - 1)) t326 t334) else (none))) else (none)) = some r := by first | (rw [hy335]; with_reducible exact H) | (have H2_ := (Option.bind_some _ _).symm.trans H; rw [hy335]; with_reducible exact H2_) | (have H2_ := (Option.bind_some _ _).symm.trans H; with_reducible exact H2_) | with_reducible exact H | (rw [hy335]; exact H) | exact H
     have Ny335 := ba_.mk hy335
     clear hy335
     by_cases c11 : x7_1.length < 17592186044416
     ·rw [if_pos c11] at H
      have LMc11 := ba_.mk c11
      clear c11
      obtain ⟨y338, hy338⟩ : ∃ y_ : List Int, y_ = (x7_1 ++ [t333]) := ⟨_, rfl⟩
      replace H : ((ud_.f t331 (wrap64 (Int.tmod a1 32))).bind fun t341 => (if x8_1.length < 17592186044416 then (pa_.l0 k1 y335 y338 (x8_1 ++ [Go.bits .xor .i64 t341 t333]) (wrap64 (Int.tmod a1 32)) (wrap64 (x10_1 - 1)) t326 t334) else (none))) = some r := by first | (rw [hy338]; with_reducible exact H) | (have H2_ := (Option.bind_some _ _).symm.trans H; rw [hy338]; with_reducible exact H2_) | (have H2_ := (Option.bind_some _ _).symm.trans H; with_reducible exact H2_) | with_reducible exact H | (rw [hy338]; exact H) | exact H
      have Ny338 := ba_.mk hy338
      clear hy338
      replace H := Option.bind_eq_some_iff.mp H
      obtain ⟨t341, A120, H⟩ := H
      replace H : (if x8_1.length < 17592186044416 then (pa_.l0 k1 y335 y338 (x8_1 ++ [Go.bits .xor .i64 t341 t333]) (wrap64 (Int.tmod a1 32)) (wrap64 (x10_1 - 1)) t326 t334) else (none)) = some r := H
      have A12 := ba_.mk A120
      clear A120
      by_cases c13 : x8_1.length < 17592186044416
      ·rw [if_pos c13] at H
       have LMc13 := ba_.mk c13
       clear c13
       obtain ⟨y342, hy342⟩ : ∃ y_ : List Int, y_ = (x8_1 ++ [Go.bits .xor .i64 t341 t333]) := ⟨_, rfl⟩
       replace H : (pa_.l0 k1 y335 y338 y342 (wrap64 (Int.tmod a1 32)) (wrap64 (x10_1 - 1)) t326 t334) = some r := by first | (rw [hy342]; with_reducible exact H) | (have H2_ := (Option.bind_some _ _).symm.trans H; rw [hy342]; with_reducible exact H2_) | (have H2_ := (Option.bind_some _ _).symm.trans H; with_reducible exact H2_) | with_reducible exact H | (rw [hy342]; exact H) | exact H
       have Ny342 := ba_.mk hy342
       clear hy342
       have H' := ba_.mk H
       clear H
       go_wp2_with (first | (go_at_call 26; (with_reducible refine (na_.calls g328 t326 x329001_1 32 t331 t332 w _ ?side1 ?side2 A8.out).mono ?_); (case side1 => repeat (first | (with_reducible first | exact HI328.out | apply ia_.alloc | apply ia_.drewN | apply ia_.drew | apply ia_.ic_) | exact HI328.out)); (case side2 => repeat (first | (with_reducible first | exact HB.out | apply fa_ | apply ca_ | apply ga_ | refine qa_ ?_ (ia_.ge HI328.out)) | exact HB.out)); rintro e w14 ⟨rfl, hi, hb, hk⟩; have n0_ := ba_.mk (Kd.bc_ (Kd.ne_ (ia_.apart (show ia_ w _ g328 t326 x329001_1 from by repeat (first | (with_reducible first | exact HI328.out | apply ia_.alloc | apply ia_.drewN | apply ia_.drew | apply ia_.ic_) | exact HI328.out)) (by (with_reducible repeat (first | apply Kd.la_ | apply Kd.ka_ | apply Kd.ma_)); exact HO_6.out) (by decide)) hk (fun _ h => h.2)) (fun _ h => h.1)); have n1_ := ba_.mk (Kd.bc_ (Kd.ne_ (ia_.apart (show ia_ w _ g328 t326 x329001_1 from by repeat (first | (with_reducible first | exact HI328.out | apply ia_.alloc | apply ia_.drewN | apply ia_.drew | apply ia_.ic_) | exact HI328.out)) (by (with_reducible repeat (first | apply Kd.la_ | apply Kd.ka_ | apply Kd.ma_)); exact HO_7.out) (by decide)) hk (fun _ h => h.2)) (fun _ h => h.1)); have n2_ := ba_.mk (Kd.bc_ (Kd.ne_ (ia_.apart (show ia_ w _ g328 t326 x329001_1 from by repeat (first | (with_reducible first | exact HI328.out | apply ia_.alloc | apply ia_.drewN | apply ia_.drew | apply ia_.ic_) | exact HI328.out)) (by (with_reducible repeat (first | apply Kd.la_ | apply Kd.ka_ | apply Kd.ma_)); exact HO_8.out) (by decide)) hk (fun _ h => h.2)) (fun _ h => h.1)); have n3_ := ba_.mk (hb); have n4_ := ba_.mk (hi); clear HO_6; clear HO_7; clear HO_8; clear HB; clear HI328; have HO_6 := n0_; have HO_7 := n1_; have HO_8 := n2_; have HB := n3_; have HI328 := n4_; clear n0_ n1_ n2_ n3_ n4_; (try clear hb); (try clear hb2); (try clear hk); (try clear hi)) | (go_at_call 26; (with_reducible refine (na_.calls g328 t326 t332 32 t333 t334 w _ ?side1 ?side2 A9.out).mono ?_); (case side1 => repeat (first | (with_reducible first | exact HI328.out | apply ia_.alloc | apply ia_.drewN | apply ia_.drew | apply ia_.ic_) | exact HI328.out)); (case side2 => repeat (first | (with_reducible first | exact HB.out | apply fa_ | apply ca_ | apply ga_ | refine qa_ ?_ (ia_.ge HI328.out)) | exact HB.out)); rintro e w15 ⟨rfl, hi, hb, hk⟩; have n0_ := ba_.mk (Kd.bc_ (Kd.ne_ (ia_.apart (show ia_ w _ g328 t326 t332 from by repeat (first | (with_reducible first | exact HI328.out | apply ia_.alloc | apply ia_.drewN | apply ia_.drew | apply ia_.ic_) | exact HI328.out)) (by (with_reducible repeat (first | apply Kd.la_ | apply Kd.ka_ | apply Kd.ma_)); exact HO_6.out) (by decide)) hk (fun _ h => h.2)) (fun _ h => h.1)); have n1_ := ba_.mk (Kd.bc_ (Kd.ne_ (ia_.apart (show ia_ w _ g328 t326 t332 from by repeat (first | (with_reducible first | exact HI328.out | apply ia_.alloc | apply ia_.drewN | apply ia_.drew | apply ia_.ic_) | exact HI328.out)) (by (with_reducible repeat (first | apply Kd.la_ | apply Kd.ka_ | apply Kd.ma_)); exact HO_7.out) (by decide)) hk (fun _ h => h.2)) (fun _ h => h.1)); have n2_ := ba_.mk (Kd.bc_ (Kd.ne_ (ia_.apart (show ia_ w _ g328 t326 t332 from by repeat (first | (with_reducible first | exact HI328.out | apply ia_.alloc | apply ia_.drewN | apply ia_.drew | apply ia_.ic_) | exact HI328.out)) (by (with_reducible repeat (first | apply Kd.la_ | apply Kd.ka_ | apply Kd.ma_)); exact HO_8.out) (by decide)) hk (fun _ h => h.2)) (fun _ h => h.1)); have n3_ := ba_.mk (hb); have n4_ := ba_.mk (hi); clear HO_6; clear HO_7; clear HO_8; clear HB; clear HI328; have HO_6 := n0_; have HO_7 := n1_; have HO_8 := n2_; have HB := n3_; have HI328 := n4_; clear n0_ n1_ n2_ n3_ n4_; (try clear hb); (try clear hb2); (try clear hk); (try clear hi)) | ((with_reducible refine hd_ (b := .append) (xs := #[.tmp 35, .tmp 37]) rfl ?_); (try (refine ce_ (by rfl) ?_; dsimp only)); at_builtin; refine Kd.qe_ (Kd.int .i64) (w0 := w) w.heap.size rfl (.tmp 35) (.tmp 37) 27 3 (.int .i64 0) 8 rfl Try.underlying27 te_ rfl (by decide) (by omega) u6 x6_1 t331 [.int .i64 t331] (fun k_ => some k_ ≠ (u7 : Value).ownBlock ∧ some k_ ≠ (u8 : Value).ownBlock) (fun _ => False) rfl rfl ?aP (fun _ hk => hk.elim) ?aF ?aO ?aB ?aS ?aL ?_; (case aP => exact rfl); (case aB => exact (by repeat (first | (with_reducible first | exact HB.out | apply fa_ | apply ca_ | apply ga_ | refine qa_ ?_ (ia_.ge HI328.out)) | exact HB.out))); (case aF => exact (fun k_ hk => ⟨Kd.fresh' (Kd.R_lt (by (with_reducible repeat (first | apply Kd.la_ | apply Kd.ka_ | apply Kd.ma_)); exact HO_7.out)) k_ hk, Kd.fresh' (Kd.R_lt (by (with_reducible repeat (first | apply Kd.la_ | apply Kd.ka_ | apply Kd.ma_)); exact HO_8.out)) k_ hk⟩)); (case aO => exact (by (with_reducible repeat (first | apply Kd.la_ | apply Kd.ka_ | apply Kd.ma_)); exact HO_6.out)); (case aS => exact (eb_ (by repeat (first | (with_reducible first | exact HB.out | apply fa_ | apply ca_ | apply ga_ | refine qa_ ?_ (ia_.ge HI328.out)) | exact HB.out)))); (case aL => have := LMc10.out; omega); intro v336 w16 ho hb hg hat; rw [← Ny335.out] at ho; have n0_ := ba_.mk (Kd.wd_ (ok := (fun k_ => some k_ ≠ (u8 : Value).ownBlock)) (by (with_reducible repeat (first | apply Kd.la_ | apply Kd.ka_ | apply Kd.ma_)); exact Kd.bc_ HO_7.out (fun _ hk => ⟨hk.2, hk.1⟩)) hg hat); have n1_ := ba_.mk (Kd.wd_ (ok := (fun k_ => some k_ ≠ (u7 : Value).ownBlock)) (by (with_reducible repeat (first | apply Kd.la_ | apply Kd.ka_ | apply Kd.ma_)); exact Kd.bc_ HO_8.out (fun _ hk => ⟨hk.2, hk.1⟩)) hg hat); have n2_ := ba_.mk (ia_.grown (by repeat (first | (with_reducible first | exact HI328.out | apply ia_.alloc | apply ia_.drewN | apply ia_.drew | apply ia_.ic_) | exact HI328.out)) hg (ia_.fe_ HI328.out HO_6.out (by decide))); have n3_ := ba_.mk (hb); have n4_ := ba_.mk (ho); clear HO_7; clear HO_8; clear HI328; clear HB; clear HO_6; have HO_7 := n0_; have HO_8 := n1_; have HI328 := n2_; have HB := n3_; have HO337 := n4_; clear n0_ n1_ n2_ n3_ n4_; clear ho hb hg hat) | ((with_reducible refine hd_ (b := .append) (xs := #[.tmp 39, .tmp 41]) rfl ?_); (try (refine ce_ (by rfl) ?_; dsimp only)); at_builtin; refine Kd.qe_ (Kd.int .i64) (w0 := w) w.heap.size rfl (.tmp 39) (.tmp 41) 27 3 (.int .i64 0) 8 rfl Try.underlying27 te_ rfl (by decide) (by omega) u7 x7_1 t333 [.int .i64 t333] (fun k_ => some k_ ≠ (u8 : Value).ownBlock ∧ some k_ ≠ (v336 : Value).ownBlock) (fun _ => False) rfl rfl ?aP (fun _ hk => hk.elim) ?aF ?aO ?aB ?aS ?aL ?_; (case aP => exact rfl); (case aB => exact (by repeat (first | (with_reducible first | exact HB.out | apply fa_ | apply ca_ | apply ga_ | refine qa_ ?_ (ia_.ge HI328.out)) | exact HB.out))); (case aF => exact (fun k_ hk => ⟨Kd.fresh' (Kd.R_lt (by (with_reducible repeat (first | apply Kd.la_ | apply Kd.ka_ | apply Kd.ma_)); exact HO_8.out)) k_ hk, Kd.fresh' (Kd.R_lt (by (with_reducible repeat (first | apply Kd.la_ | apply Kd.ka_ | apply Kd.ma_)); exact HO337.out)) k_ hk⟩)); (case aO => exact (by (with_reducible repeat (first | apply Kd.la_ | apply Kd.ka_ | apply Kd.ma_)); exact HO_7.out)); (case aS => exact (eb_ (by repeat (first | (with_reducible first | exact HB.out | apply fa_ | apply ca_ | apply ga_ | refine qa_ ?_ (ia_.ge HI328.out)) | exact HB.out)))); (case aL => have := LMc11.out; omega); intro v339 w17 ho hb hg hat; rw [← Ny338.out] at ho; have n0_ := ba_.mk (Kd.wd_ (ok := (fun k_ => some k_ ≠ (v336 : Value).ownBlock)) (by (with_reducible repeat (first | apply Kd.la_ | apply Kd.ka_ | apply Kd.ma_)); exact Kd.bc_ HO_8.out (fun _ hk => ⟨hk.2, hk.1⟩)) hg hat); have n1_ := ba_.mk (ia_.grown (by repeat (first | (with_reducible first | exact HI328.out | apply ia_.alloc | apply ia_.drewN | apply ia_.drew | apply ia_.ic_) | exact HI328.out)) hg (ia_.fe_ HI328.out HO_7.out (by decide))); have n2_ := ba_.mk (Kd.wd_ (ok := (fun k_ => some k_ ≠ (u8 : Value).ownBlock)) (by (with_reducible repeat (first | apply Kd.la_ | apply Kd.ka_ | apply Kd.ma_)); exact Kd.bc_ HO337.out (fun _ hk => ⟨hk.2, hk.1⟩)) hg hat); have n3_ := ba_.mk (hb); have n4_ := ba_.mk (ho); clear HO_8; clear HI328; clear HO337; clear HB; clear HO_7; have HO_8 := n0_; have HI328 := n1_; have HO337 := n2_; have HB := n3_; have HO340 := n4_; clear n0_ n1_ n2_ n3_ n4_; clear ho hb hg hat) | (go_at_call 15; (with_reducible refine (ud_.calls t331 (wrap64 (Int.tmod a1 32)) t341 _ A12.out).mono ?_); rintro e w' ⟨rfl, ⟨nd, rfl⟩⟩; (try first | exact ⟨rfl, _, World.drewN_drewN _ _ _⟩ | exact ⟨rfl, _, Eq.trans (World.drewN_drewN _ _ _) (congrArg (World.drewN _) (Nat.add_assoc _ _ _))⟩)) | ((with_reducible refine hd_ (b := .append) (xs := #[.tmp 43, .tmp 49]) rfl ?_); (try (refine ce_ (by rfl) ?_; dsimp only)); at_builtin; refine Kd.qe_ (Kd.int .i64) (w0 := w) w.heap.size rfl (.tmp 43) (.tmp 49) 27 3 (.int .i64 0) 8 rfl Try.underlying27 te_ rfl (by decide) (by omega) u8 x8_1 (Go.bits .xor .i64 t341 t333) [.int .i64 (Go.bits .xor .i64 t341 t333)] (fun k_ => some k_ ≠ (v336 : Value).ownBlock ∧ some k_ ≠ (v339 : Value).ownBlock) (fun _ => False) rfl rfl ?aP (fun _ hk => hk.elim) ?aF ?aO ?aB ?aS ?aL ?_; (case aP => exact rfl); (case aB => exact (by repeat (first | (with_reducible first | exact HB.out | apply fa_ | apply ca_ | apply ga_ | refine qa_ ?_ (ia_.ge HI328.out)) | exact HB.out))); (case aF => exact (fun k_ hk => ⟨Kd.fresh' (Kd.R_lt (by (with_reducible repeat (first | apply Kd.la_ | apply Kd.ka_ | apply Kd.ma_)); exact HO337.out)) k_ hk, Kd.fresh' (Kd.R_lt (by (with_reducible repeat (first | apply Kd.la_ | apply Kd.ka_ | apply Kd.ma_)); exact HO340.out)) k_ hk⟩)); (case aO => exact (by (with_reducible repeat (first | apply Kd.la_ | apply Kd.ka_ | apply Kd.ma_)); exact HO_8.out)); (case aS => exact (eb_ (by repeat (first | (with_reducible first | exact HB.out | apply fa_ | apply ca_ | apply ga_ | refine qa_ ?_ (ia_.ge HI328.out)) | exact HB.out)))); (case aL => have := LMc13.out; omega); intro v343 w18 ho hb hg hat; rw [← Ny342.out] at ho; have n0_ := ba_.mk (ia_.grown (by repeat (first | (with_reducible first | exact HI328.out | apply ia_.alloc | apply ia_.drewN | apply ia_.drew | apply ia_.ic_) | exact HI328.out)) hg (ia_.fe_ HI328.out HO_8.out (by decide))); have n1_ := ba_.mk (Kd.wd_ (ok := (fun k_ => some k_ ≠ (v339 : Value).ownBlock)) (by (with_reducible repeat (first | apply Kd.la_ | apply Kd.ka_ | apply Kd.ma_)); exact Kd.bc_ HO337.out (fun _ hk => ⟨hk.2, hk.1⟩)) hg hat); have n2_ := ba_.mk (Kd.wd_ (ok := (fun k_ => some k_ ≠ (v336 : Value).ownBlock)) (by (with_reducible repeat (first | apply Kd.la_ | apply Kd.ka_ | apply Kd.ma_)); exact Kd.bc_ HO340.out (fun _ hk => ⟨hk.2, hk.1⟩)) hg hat); have n3_ := ba_.mk (hb); have n4_ := ba_.mk (ho); clear HI328; clear HO337; clear HO340; clear HB; clear HO_8; have HI328 := n0_; have HO337 := n1_; have HO340 := n2_; have HB := n3_; have HO344 := n4_; clear n0_ n1_ n2_ n3_ n4_; clear ho hb hg hat))
       repeat (go_quiet (first | (go_at_call 26; (with_reducible refine (na_.calls g328 t326 x329001_1 32 t331 t332 w _ ?side1 ?side2 A8.out).mono ?_); (case side1 => repeat (first | (with_reducible first | exact HI328.out | apply ia_.alloc | apply ia_.drewN | apply ia_.drew | apply ia_.ic_) | exact HI328.out)); (case side2 => repeat (first | (with_reducible first | exact HB.out | apply fa_ | apply ca_ | apply ga_ | refine qa_ ?_ (ia_.ge HI328.out)) | exact HB.out)); rintro e w14 ⟨rfl, hi, hb, hk⟩; have n0_ := ba_.mk (Kd.bc_ (Kd.ne_ (ia_.apart (show ia_ w _ g328 t326 x329001_1 from by repeat (first | (with_reducible first | exact HI328.out | apply ia_.alloc | apply ia_.drewN | apply ia_.drew | apply ia_.ic_) | exact HI328.out)) (by (with_reducible repeat (first | apply Kd.la_ | apply Kd.ka_ | apply Kd.ma_)); exact HO_6.out) (by decide)) hk (fun _ h => h.2)) (fun _ h => h.1)); have n1_ := ba_.mk (Kd.bc_ (Kd.ne_ (ia_.apart (show ia_ w _ g328 t326 x329001_1 from by repeat (first | (with_reducible first | exact HI328.out | apply ia_.alloc | apply ia_.drewN | apply ia_.drew | apply ia_.ic_) | exact HI328.out)) (by (with_reducible repeat (first | apply Kd.la_ | apply Kd.ka_ | apply Kd.ma_)); exact HO_7.out) (by decide)) hk (fun _ h => h.2)) (fun _ h => h.1)); have n2_ := ba_.mk (Kd.bc_ (Kd.ne_ (ia_.apart (show ia_ w _ g328 t326 x329001_1 from by repeat (first | (with_reducible first | exact HI328.out | apply ia_.alloc | apply ia_.drewN | apply ia_.drew | apply ia_.ic_) | exact HI328.out)) (by (with_reducible repeat (first | apply Kd.la_ | apply Kd.ka_ | apply Kd.ma_)); exact HO_8.out) (by decide)) hk (fun _ h => h.2)) (fun _ h => h.1)); have n3_ := ba_.mk (hb); have n4_ := ba_.mk (hi); clear HO_6; clear HO_7; clear HO_8; clear HB; clear HI328; have HO_6 := n0_; have HO_7 := n1_; have HO_8 := n2_; have HB := n3_; have HI328 := n4_; clear n0_ n1_ n2_ n3_ n4_; (try clear hb); (try clear hb2); (try clear hk); (try clear hi)) | (go_at_call 26; (with_reducible refine (na_.calls g328 t326 t332 32 t333 t334 w _ ?side1 ?side2 A9.out).mono ?_); (case side1 => repeat (first | (with_reducible first | exact HI328.out | apply ia_.alloc | apply ia_.drewN | apply ia_.drew | apply ia_.ic_) | exact HI328.out)); (case side2 => repeat (first | (with_reducible first | exact HB.out | apply fa_ | apply ca_ | apply ga_ | refine qa_ ?_ (ia_.ge HI328.out)) | exact HB.out)); rintro e w15 ⟨rfl, hi, hb, hk⟩; have n0_ := ba_.mk (Kd.bc_ (Kd.ne_ (ia_.apart (show ia_ w _ g328 t326 t332 from by repeat (first | (with_reducible first | exact HI328.out | apply ia_.alloc | apply ia_.drewN | apply ia_.drew | apply ia_.ic_) | exact HI328.out)) (by (with_reducible repeat (first | apply Kd.la_ | apply Kd.ka_ | apply Kd.ma_)); exact HO_6.out) (by decide)) hk (fun _ h => h.2)) (fun _ h => h.1)); have n1_ := ba_.mk (Kd.bc_ (Kd.ne_ (ia_.apart (show ia_ w _ g328 t326 t332 from by repeat (first | (with_reducible first | exact HI328.out | apply ia_.alloc | apply ia_.drewN | apply ia_.drew | apply ia_.ic_) | exact HI328.out)) (by (with_reducible repeat (first | apply Kd.la_ | apply Kd.ka_ | apply Kd.ma_)); exact HO_7.out) (by decide)) hk (fun _ h => h.2)) (fun _ h => h.1)); have n2_ := ba_.mk (Kd.bc_ (Kd.ne_ (ia_.apart (show ia_ w _ g328 t326 t332 from by repeat (first | (with_reducible first | exact HI328.out | apply ia_.alloc | apply ia_.drewN | apply ia_.drew | apply ia_.ic_) | exact HI328.out)) (by (with_reducible repeat (first | apply Kd.la_ | apply Kd.ka_ | apply Kd.ma_)); exact HO_8.out) (by decide)) hk (fun _ h => h.2)) (fun _ h => h.1)); have n3_ := ba_.mk (hb); have n4_ := ba_.mk (hi); clear HO_6; clear HO_7; clear HO_8; clear HB; clear HI328; have HO_6 := n0_; have HO_7 := n1_; have HO_8 := n2_; have HB := n3_; have HI328 := n4_; clear n0_ n1_ n2_ n3_ n4_; (try clear hb); (try clear hb2); (try clear hk); (try clear hi)) | ((with_reducible refine hd_ (b := .append) (xs := #[.tmp 35, .tmp 37]) rfl ?_); (try (refine ce_ (by rfl) ?_; dsimp only)); at_builtin; refine Kd.qe_ (Kd.int .i64) (w0 := w) w.heap.size rfl (.tmp 35) (.tmp 37) 27 3 (.int .i64 0) 8 rfl Try.underlying27 te_ rfl (by decide) (by omega) u6 x6_1 t331 [.int .i64 t331] (fun k_ => some k_ ≠ (u7 : Value).ownBlock ∧ some k_ ≠ (u8 : Value).ownBlock) (fun _ => False) rfl rfl ?aP (fun _ hk => hk.elim) ?aF ?aO ?aB ?aS ?aL ?_; (case aP => exact rfl); (case aB => exact (by repeat (first | (with_reducible first | exact HB.out | apply fa_ | apply ca_ | apply ga_ | refine qa_ ?_ (ia_.ge HI328.out)) | exact HB.out))); (case aF => exact (fun k_ hk => ⟨Kd.fresh' (Kd.R_lt (by (with_reducible repeat (first | apply Kd.la_ | apply Kd.ka_ | apply Kd.ma_)); exact HO_7.out)) k_ hk, Kd.fresh' (Kd.R_lt (by (with_reducible repeat (first | apply Kd.la_ | apply Kd.ka_ | apply Kd.ma_)); exact HO_8.out)) k_ hk⟩)); (case aO => exact (by (with_reducible repeat (first | apply Kd.la_ | apply Kd.ka_ | apply Kd.ma_)); exact HO_6.out)); (case aS => exact (eb_ (by repeat (first | (with_reducible first | exact HB.out | apply fa_ | apply ca_ | apply ga_ | refine qa_ ?_ (ia_.ge HI328.out)) | exact HB.out)))); (case aL => have := LMc10.out; omega); intro v336 w16 ho hb hg hat; rw [← Ny335.out] at ho; have n0_ := ba_.mk (Kd.wd_ (ok := (fun k_ => some k_ ≠ (u8 : Value).ownBlock)) (by (with_reducible repeat (first | apply Kd.la_ | apply Kd.ka_ | apply Kd.ma_)); exact Kd.bc_ HO_7.out (fun _ hk => ⟨hk.2, hk.1⟩)) hg hat); have n1_ := ba_.mk (Kd.wd_ (ok := (fun k_ => some k_ ≠ (u7 : Value).ownBlock)) (by (with_reducible repeat (first | apply Kd.la_ | apply Kd.ka_ | apply Kd.ma_)); exact Kd.bc_ HO_8.out (fun _ hk => ⟨hk.2, hk.1⟩)) hg hat); have n2_ := ba_.mk (ia_.grown (by repeat (first | (with_reducible first | exact HI328.out | apply ia_.alloc | apply ia_.drewN | apply ia_.drew | apply ia_.ic_) | exact HI328.out)) hg (ia_.fe_ HI328.out HO_6.out (by decide))); have n3_ := ba_.mk (hb); have n4_ := ba_.mk (ho); clear HO_7; clear HO_8; clear HI328; clear HB; clear HO_6; have HO_7 := n0_; have HO_8 := n1_; have HI328 := n2_; have HB := n3_; have HO337 := n4_; clear n0_ n1_ n2_ n3_ n4_; clear ho hb hg hat) | ((with_reducible refine hd_ (b := .append) (xs := #[.tmp 39, .tmp 41]) rfl ?_); (try (refine ce_ (by rfl) ?_; dsimp only)); at_builtin; refine Kd.qe_ (Kd.int .i64) (w0 := w) w.heap.size rfl (.tmp 39) (.tmp 41) 27 3 (.int .i64 0) 8 rfl Try.underlying27 te_ rfl (by decide) (by omega) u7 x7_1 t333 [.int .i64 t333] (fun k_ => some k_ ≠ (u8 : Value).ownBlock ∧ some k_ ≠ (v336 : Value).ownBlock) (fun _ => False) rfl rfl ?aP (fun _ hk => hk.elim) ?aF ?aO ?aB ?aS ?aL ?_; (case aP => exact rfl); (case aB => exact (by repeat (first | (with_reducible first | exact HB.out | apply fa_ | apply ca_ | apply ga_ | refine qa_ ?_ (ia_.ge HI328.out)) | exact HB.out))); (case aF => exact (fun k_ hk => ⟨Kd.fresh' (Kd.R_lt (by (with_reducible repeat (first | apply Kd.la_ | apply Kd.ka_ | apply Kd.ma_)); exact HO_8.out)) k_ hk, Kd.fresh' (Kd.R_lt (by (with_reducible repeat (first | apply Kd.la_ | apply Kd.ka_ | apply Kd.ma_)); exact HO337.out)) k_ hk⟩)); (case aO => exact (by (with_reducible repeat (first | apply Kd.la_ | apply Kd.ka_ | apply Kd.ma_)); exact HO_7.out)); (case aS => exact (eb_ (by repeat (first | (with_reducible first | exact HB.out | apply fa_ | apply ca_ | apply ga_ | refine qa_ ?_ (ia_.ge HI328.out)) | exact HB.out)))); (case aL => have := LMc11.out; omega); intro v339 w17 ho hb hg hat; rw [← Ny338.out] at ho; have n0_ := ba_.mk (Kd.wd_ (ok := (fun k_ => some k_ ≠ (v336 : Value).ownBlock)) (by (with_reducible repeat (first | apply Kd.la_ | apply Kd.ka_ | apply Kd.ma_)); exact Kd.bc_ HO_8.out (fun _ hk => ⟨hk.2, hk.1⟩)) hg hat); have n1_ := ba_.mk (ia_.grown (by repeat (first | (with_reducible first | exact HI328.out | apply ia_.alloc | apply ia_.drewN | apply ia_.drew | apply ia_.ic_) | exact HI328.out)) hg (ia_.fe_ HI328.out HO_7.out (by decide))); have n2_ := ba_.mk (Kd.wd_ (ok := (fun k_ => some k_ ≠ (u8 : Value).ownBlock)) (by (with_reducible repeat (first | apply Kd.la_ | apply Kd.ka_ | apply Kd.ma_)); exact Kd.bc_ HO337.out (fun _ hk => ⟨hk.2, hk.1⟩)) hg hat); have n3_ := ba_.mk (hb); have n4_ := ba_.mk (ho); clear HO_8; clear HI328; clear HO337; clear HB; clear HO_7; have HO_8 := n0_; have HI328 := n1_; have HO337 := n2_; have HB := n3_; have HO340 := n4_; clear n0_ n1_ n2_ n3_ n4_; clear ho hb hg hat) | (go_at_call 15; (with_reducible refine (ud_.calls t331 (wrap64 (Int.tmod a1 32)) t341 _ A12.out).mono ?_); rintro e w' ⟨rfl, ⟨nd, rfl⟩⟩; (try first | exact ⟨rfl, _, World.drewN_drewN _ _ _⟩ | exact ⟨rfl, _, Eq.trans (World.drewN_drewN _ _ _) (congrArg (World.drewN _) (Nat.add_assoc _ _ _))⟩)) | ((with_reducible refine hd_ (b := .append) (xs := #[.tmp 43, .tmp 49]) rfl ?_); (try (refine ce_ (by rfl) ?_; dsimp only)); at_builtin; refine Kd.qe_ (Kd.int .i64) (w0 := w) w.heap.size rfl (.tmp 43) (.tmp 49) 27 3 (.int .i64 0) 8 rfl Try.underlying27 te_ rfl (by decide) (by omega) u8 x8_1 (Go.bits .xor .i64 t341 t333) [.int .i64 (Go.bits .xor .i64 t341 t333)] (fun k_ => some k_ ≠ (v336 : Value).ownBlock ∧ some k_ ≠ (v339 : Value).ownBlock) (fun _ => False) rfl rfl ?aP (fun _ hk => hk.elim) ?aF ?aO ?aB ?aS ?aL ?_; (case aP => exact rfl); (case aB => exact (by repeat (first | (with_reducible first | exact HB.out | apply fa_ | apply ca_ | apply ga_ | refine qa_ ?_ (ia_.ge HI328.out)) | exact HB.out))); (case aF => exact (fun k_ hk => ⟨Kd.fresh' (Kd.R_lt (by (with_reducible repeat (first | apply Kd.la_ | apply Kd.ka_ | apply Kd.ma_)); exact HO337.out)) k_ hk, Kd.fresh' (Kd.R_lt (by (with_reducible repeat (first | apply Kd.la_ | apply Kd.ka_ | apply Kd.ma_)); exact HO340.out)) k_ hk⟩)); (case aO => exact (by (with_reducible repeat (first | apply Kd.la_ | apply Kd.ka_ | apply Kd.ma_)); exact HO_8.out)); (case aS => exact (eb_ (by repeat (first | (with_reducible first | exact HB.out | apply fa_ | apply ca_ | apply ga_ | refine qa_ ?_ (ia_.ge HI328.out)) | exact HB.out)))); (case aL => have := LMc13.out; omega); intro v343 w18 ho hb hg hat; rw [← Ny342.out] at ho; have n0_ := ba_.mk (ia_.grown (by repeat (first | (with_reducible first | exact HI328.out | apply ia_.alloc | apply ia_.drewN | apply ia_.drew | apply ia_.ic_) | exact HI328.out)) hg (ia_.fe_ HI328.out HO_8.out (by decide))); have n1_ := ba_.mk (Kd.wd_ (ok := (fun k_ => some k_ ≠ (v339 : Value).ownBlock)) (by (with_reducible repeat (first | apply Kd.la_ | apply Kd.ka_ | apply Kd.ma_)); exact Kd.bc_ HO337.out (fun _ hk => ⟨hk.2, hk.1⟩)) hg hat); have n2_ := ba_.mk (Kd.wd_ (ok := (fun k_ => some k_ ≠ (v336 : Value).ownBlock)) (by (with_reducible repeat (first | apply Kd.la_ | apply Kd.ka_ | apply Kd.ma_)); exact Kd.bc_ HO340.out (fun _ hk => ⟨hk.2, hk.1⟩)) hg hat); have n3_ := ba_.mk (hb); have n4_ := ba_.mk (ho); clear HI328; clear HO337; clear HO340; clear HB; clear HO_8; have HI328 := n0_; have HO337 := n1_; have HO340 := n2_; have HB := n3_; have HO344 := n4_; clear n0_ n1_ n2_ n3_ n4_; clear ho hb hg hat)); try go_wp2_with (first | (go_at_call 26; (with_reducible refine (na_.calls g328 t326 x329001_1 32 t331 t332 w _ ?side1 ?side2 A8.out).mono ?_); (case side1 => repeat (first | (with_reducible first | exact HI328.out | apply ia_.alloc | apply ia_.drewN | apply ia_.drew | apply ia_.ic_) | exact HI328.out)); (case side2 => repeat (first | (with_reducible first | exact HB.out | apply fa_ | apply ca_ | apply ga_ | refine qa_ ?_ (ia_.ge HI328.out)) | exact HB.out)); rintro e w14 ⟨rfl, hi, hb, hk⟩; have n0_ := ba_.mk (Kd.bc_ (Kd.ne_ (ia_.apart (show ia_ w _ g328 t326 x329001_1 from by repeat (first | (with_reducible first | exact HI328.out | apply ia_.alloc | apply ia_.drewN | apply ia_.drew | apply ia_.ic_) | exact HI328.out)) (by (with_reducible repeat (first | apply Kd.la_ | apply Kd.ka_ | apply Kd.ma_)); exact HO_6.out) (by decide)) hk (fun _ h => h.2)) (fun _ h => h.1)); have n1_ := ba_.mk (Kd.bc_ (Kd.ne_ (ia_.apart (show ia_ w _ g328 t326 x329001_1 from by repeat (first | (with_reducible first | exact HI328.out | apply ia_.alloc | apply ia_.drewN | apply ia_.drew | apply ia_.ic_) | exact HI328.out)) (by (with_reducible repeat (first | apply Kd.la_ | apply Kd.ka_ | apply Kd.ma_)); exact HO_7.out) (by decide)) hk (fun _ h => h.2)) (fun _ h => h.1)); have n2_ := ba_.mk (Kd.bc_ (Kd.ne_ (ia_.apart (show ia_ w _ g328 t326 x329001_1 from by repeat (first | (with_reducible first | exact HI328.out | apply ia_.alloc | apply ia_.drewN | apply ia_.drew | apply ia_.ic_) | exact HI328.out)) (by (with_reducible repeat (first | apply Kd.la_ | apply Kd.ka_ | apply Kd.ma_)); exact HO_8.out) (by decide)) hk (fun _ h => h.2)) (fun _ h => h.1)); have n3_ := ba_.mk (hb); have n4_ := ba_.mk (hi); clear HO_6; clear HO_7; clear HO_8; clear HB; clear HI328; have HO_6 := n0_; have HO_7 := n1_; have HO_8 := n2_; have HB := n3_; have HI328 := n4_; clear n0_ n1_ n2_ n3_ n4_; (try clear hb); (try clear hb2); (try clear hk); (try clear hi)) | (go_at_call 26; (with_reducible refine (na_.calls g328 t326 t332 32 t333 t334 w _ ?side1 ?side2 A9.out).mono ?_); (case side1 => repeat (first | (with_reducible first | exact HI328.out | apply ia_.alloc | apply ia_.drewN | apply ia_.drew | apply ia_.ic_) | exact HI328.out)); (case side2 => repeat (first | (with_reducible first | exact HB.out | apply fa_ | apply ca_ | apply ga_ | refine qa_ ?_ (ia_.ge HI328.out)) | exact HB.out)); rintro e w15 ⟨rfl, hi, hb, hk⟩; have n0_ := ba_.mk (Kd.bc_ (Kd.ne_ (ia_.apart (show ia_ w _ g328 t326 t332 from by repeat (first | (with_reducible first | exact HI328.out | apply ia_.alloc | apply ia_.drewN | apply ia_.drew | apply ia_.ic_) | exact HI328.out)) (by (with_reducible repeat (first | apply Kd.la_ | apply Kd.ka_ | apply Kd.ma_)); exact HO_6.out) (by decide)) hk (fun _ h => h.2)) (fun _ h => h.1)); have n1_ := ba_.mk (Kd.bc_ (Kd.ne_ (ia_.apart (show ia_ w _ g328 t326 t332 from by repeat (first | (with_reducible first | exact HI328.out | apply ia_.alloc | apply ia_.drewN | apply ia_.drew | apply ia_.ic_) | exact HI328.out)) (by (with_reducible repeat (first | apply Kd.la_ | apply Kd.ka_ | apply Kd.ma_)); exact HO_7.out) (by decide)) hk (fun _ h => h.2)) (fun _ h => h.1)); have n2_ := ba_.mk (Kd.bc_ (Kd.ne_ (ia_.apart (show ia_ w _ g328 t326 t332 from by repeat (first | (with_reducible first | exact HI328.out | apply ia_.alloc | apply ia_.drewN | apply ia_.drew | apply ia_.ic_) | exact HI328.out)) (by (with_reducible repeat (first | apply Kd.la_ | apply Kd.ka_ | apply Kd.ma_)); exact HO_8.out) (by decide)) hk (fun _ h => h.2)) (fun _ h => h.1)); have n3_ := ba_.mk (hb); have n4_ := ba_.mk (hi); clear HO_6; clear HO_7; clear HO_8; clear HB; clear HI328; have HO_6 := n0_; have HO_7 := n1_; have HO_8 := n2_; have HB := n3_; have HI328 := n4_; clear n0_ n1_ n2_ n3_ n4_; (try clear hb); (try clear hb2); (try clear hk); (try clear hi)) | ((with_reducible refine hd_ (b := .append) (xs := #[.tmp 35, .tmp 37]) rfl ?_); (try (refine ce_ (by rfl) ?_; dsimp only)); at_builtin; refine Kd.qe_ (Kd.int .i64) (w0 := w) w.heap.size rfl (.tmp 35) (.tmp 37) 27 3 (.int .i64 0) 8 rfl Try.underlying27 te_ rfl (by decide) (by omega) u6 x6_1 t331 [.int .i64 t331] (fun k_ => some k_ ≠ (u7 : Value).ownBlock ∧ some k_ ≠ (u8 : Value).ownBlock) (fun _ => False) rfl rfl ?aP (fun _ hk => hk.elim) ?aF ?aO ?aB ?aS ?aL ?_; (case aP => exact rfl); (case aB => exact (by repeat (first | (with_reducible first | exact HB.out | apply fa_ | apply ca_ | apply ga_ | refine qa_ ?_ (ia_.ge HI328.out)) | exact HB.out))); (case aF => exact (fun k_ hk => ⟨Kd.fresh' (Kd.R_lt (by (with_reducible repeat (first | apply Kd.la_ | apply Kd.ka_ | apply Kd.ma_)); exact HO_7.out)) k_ hk, Kd.fresh' (Kd.R_lt (by (with_reducible repeat (first | apply Kd.la_ | apply Kd.ka_ | apply Kd.ma_)); exact HO_8.out)) k_ hk⟩)); (case aO => exact (by (with_reducible repeat (first | apply Kd.la_ | apply Kd.ka_ | apply Kd.ma_)); exact HO_6.out)); (case aS => exact (eb_ (by repeat (first | (with_reducible first | exact HB.out | apply fa_ | apply ca_ | apply ga_ | refine qa_ ?_ (ia_.ge HI328.out)) | exact HB.out)))); (case aL => have := LMc10.out; omega); intro v336 w16 ho hb hg hat; rw [← Ny335.out] at ho; have n0_ := ba_.mk (Kd.wd_ (ok := (fun k_ => some k_ ≠ (u8 : Value).ownBlock)) (by (with_reducible repeat (first | apply Kd.la_ | apply Kd.ka_ | apply Kd.ma_)); exact Kd.bc_ HO_7.out (fun _ hk => ⟨hk.2, hk.1⟩)) hg hat); have n1_ := ba_.mk (Kd.wd_ (ok := (fun k_ => some k_ ≠ (u7 : Value).ownBlock)) (by (with_reducible repeat (first | apply Kd.la_ | apply Kd.ka_ | apply Kd.ma_)); exact Kd.bc_ HO_8.out (fun _ hk => ⟨hk.2, hk.1⟩)) hg hat); have n2_ := ba_.mk (ia_.grown (by repeat (first | (with_reducible first | exact HI328.out | apply ia_.alloc | apply ia_.drewN | apply ia_.drew | apply ia_.ic_) | exact HI328.out)) hg (ia_.fe_ HI328.out HO_6.out (by decide))); have n3_ := ba_.mk (hb); have n4_ := ba_.mk (ho); clear HO_7; clear HO_8; clear HI328; clear HB; clear HO_6; have HO_7 := n0_; have HO_8 := n1_; have HI328 := n2_; have HB := n3_; have HO337 := n4_; clear n0_ n1_ n2_ n3_ n4_; clear ho hb hg hat) | ((with_reducible refine hd_ (b := .append) (xs := #[.tmp 39, .tmp 41]) rfl ?_); (try (refine ce_ (by rfl) ?_; dsimp only)); at_builtin; refine Kd.qe_ (Kd.int .i64) (w0 := w) w.heap.size rfl (.tmp 39) (.tmp 41) 27 3 (.int .i64 0) 8 rfl Try.underlying27 te_ rfl (by decide) (by omega) u7 x7_1 t333 [.int .i64 t333] (fun k_ => some k_ ≠ (u8 : Value).ownBlock ∧ some k_ ≠ (v336 : Value).ownBlock) (fun _ => False) rfl rfl ?aP (fun _ hk => hk.elim) ?aF ?aO ?aB ?aS ?aL ?_; (case aP => exact rfl); (case aB => exact (by repeat (first | (with_reducible first | exact HB.out | apply fa_ | apply ca_ | apply ga_ | refine qa_ ?_ (ia_.ge HI328.out)) | exact HB.out))); (case aF => exact (fun k_ hk => ⟨Kd.fresh' (Kd.R_lt (by (with_reducible repeat (first | apply Kd.la_ | apply Kd.ka_ | apply Kd.ma_)); exact HO_8.out)) k_ hk, Kd.fresh' (Kd.R_lt (by (with_reducible repeat (first | apply Kd.la_ | apply Kd.ka_ | apply Kd.ma_)); exact HO337.out)) k_ hk⟩)); (case aO => exact (by (with_reducible repeat (first | apply Kd.la_ | apply Kd.ka_ | apply Kd.ma_)); exact HO_7.out)); (case aS => exact (eb_ (by repeat (first | (with_reducible first | exact HB.out | apply fa_ | apply ca_ | apply ga_ | refine qa_ ?_ (ia_.ge HI328.out)) | exact HB.out)))); (case aL => have := LMc11.out; omega); intro v339 w17 ho hb hg hat; rw [← Ny338.out] at ho; have n0_ := ba_.mk (Kd.wd_ (ok := (fun k_ => some k_ ≠ (v336 : Value).ownBlock)) (by (with_reducible repeat (first | apply Kd.la_ | apply Kd.ka_ | apply Kd.ma_)); exact Kd.bc_ HO_8.out (fun _ hk => ⟨hk.2, hk.1⟩)) hg hat); have n1_ := ba_.mk (ia_.grown (by repeat (first | (with_reducible first | exact HI328.out | apply ia_.alloc | apply ia_.drewN | apply ia_.drew | apply ia_.ic_) | exact HI328.out)) hg (ia_.fe_ HI328.out HO_7.out (by decide))); have n2_ := ba_.mk (Kd.wd_ (ok := (fun k_ => some k_ ≠ (u8 : Value).ownBlock)) (by (with_reducible repeat (first | apply Kd.la_ | apply Kd.ka_ | apply Kd.ma_)); exact Kd.bc_ HO337.out (fun _ hk => ⟨hk.2, hk.1⟩)) hg hat); have n3_ := ba_.mk (hb); have n4_ := ba_.mk (ho); clear HO_8; clear HI328; clear HO337; clear HB; clear HO_7; have HO_8 := n0_; have HI328 := n1_; have HO337 := n2_; have HB := n3_; have HO340 := n4_; clear n0_ n1_ n2_ n3_ n4_; clear ho hb hg hat) | (go_at_call 15; (with_reducible refine (ud_.calls t331 (wrap64 (Int.tmod a1 32)) t341 _ A12.out).mono ?_); rintro e w' ⟨rfl, ⟨nd, rfl⟩⟩; (try first | exact ⟨rfl, _, World.drewN_drewN _ _ _⟩ | exact ⟨rfl, _, Eq.trans (World.drewN_drewN _ _ _) (congrArg (World.drewN _) (Nat.add_assoc _ _ _))⟩)) | ((with_reducible refine hd_ (b := .append) (xs := #[.tmp 43, .tmp 49]) rfl ?_); (try (refine ce_ (by rfl) ?_; dsimp only)); at_builtin; refine Kd.qe_ (Kd.int .i64) (w0 := w) w.heap.size rfl (.tmp 43) (.tmp 49) 27 3 (.int .i64 0) 8 rfl Try.underlying27 te_ rfl (by decide) (by omega) u8 x8_1 (Go.bits .xor .i64 t341 t333) [.int .i64 (Go.bits .xor .i64 t341 t333)] (fun k_ => some k_ ≠ (v336 : Value).ownBlock ∧ some k_ ≠ (v339 : Value).ownBlock) (fun _ => False) rfl rfl ?aP (fun _ hk => hk.elim) ?aF ?aO ?aB ?aS ?aL ?_; (case aP => exact rfl); (case aB => exact (by repeat (first | (with_reducible first | exact HB.out | apply fa_ | apply ca_ | apply ga_ | refine qa_ ?_ (ia_.ge HI328.out)) | exact HB.out))); (case aF => exact (fun k_ hk => ⟨Kd.fresh' (Kd.R_lt (by (with_reducible repeat (first | apply Kd.la_ | apply Kd.ka_ | apply Kd.ma_)); exact HO337.out)) k_ hk, Kd.fresh' (Kd.R_lt (by (with_reducible repeat (first | apply Kd.la_ | apply Kd.ka_ | apply Kd.ma_)); exact HO340.out)) k_ hk⟩)); (case aO => exact (by (with_reducible repeat (first | apply Kd.la_ | apply Kd.ka_ | apply Kd.ma_)); exact HO_8.out)); (case aS => exact (eb_ (by repeat (first | (with_reducible first | exact HB.out | apply fa_ | apply ca_ | apply ga_ | refine qa_ ?_ (ia_.ge HI328.out)) | exact HB.out)))); (case aL => have := LMc13.out; omega); intro v343 w18 ho hb hg hat; rw [← Ny342.out] at ho; have n0_ := ba_.mk (ia_.grown (by repeat (first | (with_reducible first | exact HI328.out | apply ia_.alloc | apply ia_.drewN | apply ia_.drew | apply ia_.ic_) | exact HI328.out)) hg (ia_.fe_ HI328.out HO_8.out (by decide))); have n1_ := ba_.mk (Kd.wd_ (ok := (fun k_ => some k_ ≠ (v339 : Value).ownBlock)) (by (with_reducible repeat (first | apply Kd.la_ | apply Kd.ka_ | apply Kd.ma_)); exact Kd.bc_ HO337.out (fun _ hk => ⟨hk.2, hk.1⟩)) hg hat); have n2_ := ba_.mk (Kd.wd_ (ok := (fun k_ => some k_ ≠ (v336 : Value).ownBlock)) (by (with_reducible repeat (first | apply Kd.la_ | apply Kd.ka_ | apply Kd.ma_)); exact Kd.bc_ HO340.out (fun _ hk => ⟨hk.2, hk.1⟩)) hg hat); have n3_ := ba_.mk (hb); have n4_ := ba_.mk (ho); clear HI328; clear HO337; clear HO340; clear HB; clear HO_8; have HI328 := n0_; have HO337 := n1_; have HO340 := n2_; have HB := n3_; have HO344 := n4_; clear n0_ n1_ n2_ n3_ n4_; clear ho hb hg hat)))
       go_roundg k1
       case measure => have := HK1.out; omega
       case rel => exact ⟨(y335), (y338), (y342), (wrap64 (x10_1 - 1)), (t334), (by first | rfl | (simp; done) | (simp [*]; done)), H', ⟨by have := HK1.out; omega⟩, ⟨by (with_reducible repeat (first | apply Kd.la_ | apply Kd.ka_ | apply Kd.ma_)); exact HO337.out⟩, ⟨by (with_reducible repeat (first | apply Kd.la_ | apply Kd.ka_ | apply Kd.ma_)); exact HO340.out⟩, ⟨by (with_reducible repeat (first | apply Kd.la_ | apply Kd.ka_ | apply Kd.ma_)); exact HO344.out⟩, ⟨by repeat (first | (with_reducible first | exact HI328.out | apply ia_.alloc | apply ia_.drewN | apply ia_.drew | apply ia_.ic_) | exact HI328.out)⟩, ⟨by repeat (first | (with_reducible first | exact HB.out | apply fa_ | apply ca_ | apply ga_ | refine qa_ ?_ (ia_.ge HI328.out)) | exact HB.out)⟩⟩
      ·rw [if_neg c13] at H
       exact absurd H (by simp)
     ·rw [if_neg c11] at H
      exact absurd H (by simp)
    ·rw [if_neg c10] at H
     exact absurd H (by simp)
   ·rw [if_neg c7] at H
    have c7b0 : decide (0 < x10_1) = false := decide_eq_false c7
    clear c7
    replace H := Option.bind_eq_some_iff.mp H
    obtain ⟨⟨t345, t346⟩, A190, H⟩ := H
    replace H : ((ge_.f x7_1).bind fun bt349 => ((ge_.f x8_1).bind fun bt353 => (if t346 = 0 then (if bt349.2 = 0 then (if bt353.2 = 0 then (if (t345.length : Int) = (bt349.1.length : Int) then (if (bt349.1.length : Int) = (bt353.1.length : Int) then (pa_.j1 k1 x6_1 (wrap64 (Int.tmod a1 32)) t345 bt349.1 bt353.1 ((t345.length : Int) != (wrap64 ((x6_1.length : Int) + 6)))) else (pa_.j1 k1 x6_1 (wrap64 (Int.tmod a1 32)) t345 bt349.1 bt353.1 true)) else (pa_.j1 k1 x6_1 (wrap64 (Int.tmod a1 32)) t345 bt349.1 bt353.1 true)) else (pa_.j1 k1 x6_1 (wrap64 (Int.tmod a1 32)) t345 bt349.1 bt353.1 true)) else (pa_.j1 k1 x6_1 (wrap64 (Int.tmod a1 32)) t345 bt349.1 bt353.1 true)) else (pa_.j1 k1 x6_1 (wrap64 (Int.tmod a1 32)) t345 bt349.1 bt353.1 true)))) = some r := H
    have A19 := ba_.mk A190
    clear A190
    replace H := Option.bind_eq_some_iff.mp H
    obtain ⟨⟨t349, t350⟩, A200, H⟩ := H
    replace H : ((ge_.f x8_1).bind fun bt353 => (if t346 = 0 then (if t350 = 0 then (if bt353.2 = 0 then (if (t345.length : Int) = (t349.length : Int) then (if (t349.length : Int) = (bt353.1.length : Int) then (pa_.j1 k1 x6_1 (wrap64 (Int.tmod a1 32)) t345 t349 bt353.1 ((t345.length : Int) != (wrap64 ((x6_1.length : Int) + 6)))) else (pa_.j1 k1 x6_1 (wrap64 (Int.tmod a1 32)) t345 t349 bt353.1 true)) else (pa_.j1 k1 x6_1 (wrap64 (Int.tmod a1 32)) t345 t349 bt353.1 true)) else (pa_.j1 k1 x6_1 (wrap64 (Int.tmod a1 32)) t345 t349 bt353.1 true)) else (pa_.j1 k1 x6_1 (wrap64 (Int.tmod a1 32)) t345 t349 bt353.1 true)) else (pa_.j1 k1 x6_1 (wrap64 (Int.tmod a1 32)) t345 t349 bt353.1 true))) = some r := H
    have A20 := ba_.mk A200
    clear A200
    replace H := Option.bind_eq_some_iff.mp H
    obtain ⟨⟨t353, t354⟩, A210, H⟩ := H
    replace H : (if t346 = 0 then (if t350 = 0 then (if t354 = 0 then (if (t345.length : Int) = (t349.length : Int) then (if (t349.length : Int) = (t353.length : Int) then (pa_.j1 k1 x6_1 (wrap64 (Int.tmod a1 32)) t345 t349 t353 ((t345.length : Int) != (wrap64 ((x6_1.length : Int) + 6)))) else (pa_.j1 k1 x6_1 (wrap64 (Int.tmod a1 32)) t345 t349 t353 true)) else (pa_.j1 k1 x6_1 (wrap64 (Int.tmod a1 32)) t345 t349 t353 true)) else (pa_.j1 k1 x6_1 (wrap64 (Int.tmod a1 32)) t345 t349 t353 true)) else (pa_.j1 k1 x6_1 (wrap64 (Int.tmod a1 32)) t345 t349 t353 true)) else (pa_.j1 k1 x6_1 (wrap64 (Int.tmod a1 32)) t345 t349 t353 true)) = some r := H
    have A21 := ba_.mk A210
    clear A210
    have HC22 := ba_.mk H
    clear H
    obtain ⟨Ao23, co23, eo23⟩ := Kd.fc_ HO_6.out
    subst eo23
    go_upto_region 12 with (first | (go_at_call 27; (with_reducible refine (ge_.calls _ _ x6_1 t345 t346 _ ?side1 ?side2 A19.out).mono ?_); (case side1 => repeat (first | exact (Kd.ta_ HO_6.out).2.2 | (with_reducible refine Kd.yb_ ?_ _) | (with_reducible refine Kd.zb_ ?_ _) | (with_reducible refine Kd.jc_ ?_))); (case side2 => exact (Kd.ta_ HO_6.out).2.1); rintro e w24 ⟨v347, rfl, ho0, hb⟩; have n0_ := ba_.mk (Kd.wb_ (by (with_reducible repeat (first | apply Kd.la_ | apply Kd.ka_ | apply Kd.ma_)); exact HO_6.out) (Kd.rc_ ho0) hb); have n1_ := ba_.mk (Kd.wb_ (by (with_reducible repeat (first | apply Kd.la_ | apply Kd.ka_ | apply Kd.ma_)); exact HO_7.out) (Kd.rc_ ho0) hb); have n2_ := ba_.mk (Kd.wb_ (by (with_reducible repeat (first | apply Kd.la_ | apply Kd.ka_ | apply Kd.ma_)); exact HO_8.out) (Kd.rc_ ho0) hb); have n3_ := ba_.mk (Kd.wc_ (Kd.qc_ (Kd.qc_ (Kd.qc_ ho0 (Kd.R_lt (by (with_reducible repeat (first | apply Kd.la_ | apply Kd.ka_ | apply Kd.ma_)); exact HO_6.out))) (Kd.R_lt (by (with_reducible repeat (first | apply Kd.la_ | apply Kd.ka_ | apply Kd.ma_)); exact HO_7.out))) (Kd.R_lt (by (with_reducible repeat (first | apply Kd.la_ | apply Kd.ka_ | apply Kd.ma_)); exact HO_8.out))) (eb_ (by repeat (first | (with_reducible first | exact HB.out | apply fa_ | apply ca_ | apply ga_ | refine qa_ ?_ (ia_.ge HI328.out)) | exact HB.out)))); have n4_ := ba_.mk (ia_.below (by repeat (first | (with_reducible first | exact HI328.out | apply ia_.alloc | apply ia_.drewN | apply ia_.drew | apply ia_.ic_) | exact HI328.out)) hb); have n5_ := ba_.mk (gb_ (by repeat (first | (with_reducible first | exact HB.out | apply fa_ | apply ca_ | apply ga_ | refine qa_ ?_ (ia_.ge HI328.out)) | exact HB.out)) hb); clear HO_6; clear HO_7; clear HO_8; clear HI328; clear HB; have HO_6 := n0_; have HO_7 := n1_; have HO_8 := n2_; have HO348 := n3_; have HI328 := n4_; have HB := n5_; clear n0_ n1_ n2_ n3_ n4_ n5_; (try clear hb); (try clear hb2); (try clear hk); (try clear hi); (try clear ho0); obtain ⟨Ao25, co25, eo25⟩ := Kd.fc_ HO_7.out; subst eo25) | (go_at_call 27; (with_reducible refine (ge_.calls _ _ x7_1 t349 t350 _ ?side1 ?side2 A20.out).mono ?_); (case side1 => repeat (first | exact (Kd.ta_ HO_7.out).2.2 | (with_reducible refine Kd.yb_ ?_ _) | (with_reducible refine Kd.zb_ ?_ _) | (with_reducible refine Kd.jc_ ?_))); (case side2 => exact (Kd.ta_ HO_7.out).2.1); rintro e w26 ⟨v351, rfl, ho0, hb⟩; have n0_ := ba_.mk (Kd.wb_ (by (with_reducible repeat (first | apply Kd.la_ | apply Kd.ka_ | apply Kd.ma_)); exact HO_6.out) (Kd.rc_ ho0) hb); have n1_ := ba_.mk (Kd.wb_ (by (with_reducible repeat (first | apply Kd.la_ | apply Kd.ka_ | apply Kd.ma_)); exact HO_7.out) (Kd.rc_ ho0) hb); have n2_ := ba_.mk (Kd.wb_ (by (with_reducible repeat (first | apply Kd.la_ | apply Kd.ka_ | apply Kd.ma_)); exact HO_8.out) (Kd.rc_ ho0) hb); have n3_ := ba_.mk (Kd.wb_ (by (with_reducible repeat (first | apply Kd.la_ | apply Kd.ka_ | apply Kd.ma_)); exact HO348.out) (Kd.rc_ ho0) hb); have n4_ := ba_.mk (Kd.wc_ (Kd.qc_ (Kd.qc_ (Kd.qc_ (Kd.qc_ ho0 (Kd.R_lt (by (with_reducible repeat (first | apply Kd.la_ | apply Kd.ka_ | apply Kd.ma_)); exact HO_6.out))) (Kd.R_lt (by (with_reducible repeat (first | apply Kd.la_ | apply Kd.ka_ | apply Kd.ma_)); exact HO_7.out))) (Kd.R_lt (by (with_reducible repeat (first | apply Kd.la_ | apply Kd.ka_ | apply Kd.ma_)); exact HO_8.out))) (Kd.R_lt (by (with_reducible repeat (first | apply Kd.la_ | apply Kd.ka_ | apply Kd.ma_)); exact HO348.out))) (eb_ (by repeat (first | (with_reducible first | exact HB.out | apply fa_ | apply ca_ | apply ga_ | refine qa_ ?_ (ia_.ge HI328.out)) | exact HB.out)))); have n5_ := ba_.mk (ia_.below (by repeat (first | (with_reducible first | exact HI328.out | apply ia_.alloc | apply ia_.drewN | apply ia_.drew | apply ia_.ic_) | exact HI328.out)) hb); have n6_ := ba_.mk (gb_ (by repeat (first | (with_reducible first | exact HB.out | apply fa_ | apply ca_ | apply ga_ | refine qa_ ?_ (ia_.ge HI328.out)) | exact HB.out)) hb); clear HO_6; clear HO_7; clear HO_8; clear HO348; clear HI328; clear HB; have HO_6 := n0_; have HO_7 := n1_; have HO_8 := n2_; have HO348 := n3_; have HO352 := n4_; have HI328 := n5_; have HB := n6_; clear n0_ n1_ n2_ n3_ n4_ n5_ n6_; (try clear hb); (try clear hb2); (try clear hk); (try clear hi); (try clear ho0); obtain ⟨Ao27, co27, eo27⟩ := Kd.fc_ HO_8.out; subst eo27) | (go_at_call 27; (with_reducible refine (ge_.calls _ _ x8_1 t353 t354 _ ?side1 ?side2 A21.out).mono ?_); (case side1 => repeat (first | exact (Kd.ta_ HO_8.out).2.2 | (with_reducible refine Kd.yb_ ?_ _) | (with_reducible refine Kd.zb_ ?_ _) | (with_reducible refine Kd.jc_ ?_))); (case side2 => exact (Kd.ta_ HO_8.out).2.1); rintro e w28 ⟨v355, rfl, ho0, hb⟩; have n0_ := ba_.mk (Kd.wb_ (by (with_reducible repeat (first | apply Kd.la_ | apply Kd.ka_ | apply Kd.ma_)); exact HO_6.out) (Kd.rc_ ho0) hb); have n1_ := ba_.mk (Kd.wb_ (by (with_reducible repeat (first | apply Kd.la_ | apply Kd.ka_ | apply Kd.ma_)); exact HO_7.out) (Kd.rc_ ho0) hb); have n2_ := ba_.mk (Kd.wb_ (by (with_reducible repeat (first | apply Kd.la_ | apply Kd.ka_ | apply Kd.ma_)); exact HO_8.out) (Kd.rc_ ho0) hb); have n3_ := ba_.mk (Kd.wb_ (by (with_reducible repeat (first | apply Kd.la_ | apply Kd.ka_ | apply Kd.ma_)); exact HO348.out) (Kd.rc_ ho0) hb); have n4_ := ba_.mk (Kd.wb_ (by (with_reducible repeat (first | apply Kd.la_ | apply Kd.ka_ | apply Kd.ma_)); exact HO352.out) (Kd.rc_ ho0) hb); have n5_ := ba_.mk (Kd.wc_ (Kd.qc_ (Kd.qc_ (Kd.qc_ (Kd.qc_ (Kd.qc_ ho0 (Kd.R_lt (by (with_reducible repeat (first | apply Kd.la_ | apply Kd.ka_ | apply Kd.ma_)); exact HO_6.out))) (Kd.R_lt (by (with_reducible repeat (first | apply Kd.la_ | apply Kd.ka_ | apply Kd.ma_)); exact HO_7.out))) (Kd.R_lt (by (with_reducible repeat (first | apply Kd.la_ | apply Kd.ka_ | apply Kd.ma_)); exact HO_8.out))) (Kd.R_lt (by (with_reducible repeat (first | apply Kd.la_ | apply Kd.ka_ | apply Kd.ma_)); exact HO348.out))) (Kd.R_lt (by (with_reducible repeat (first | apply Kd.la_ | apply Kd.ka_ | apply Kd.ma_)); exact HO352.out))) (eb_ (by repeat (first | (with_reducible first | exact HB.out | apply fa_ | apply ca_ | apply ga_ | refine qa_ ?_ (ia_.ge HI328.out)) | exact HB.out)))); have n6_ := ba_.mk (ia_.below (by repeat (first | (with_reducible first | exact HI328.out | apply ia_.alloc | apply ia_.drewN | apply ia_.drew | apply ia_.ic_) | exact HI328.out)) hb); have n7_ := ba_.mk (gb_ (by repeat (first | (with_reducible first | exact HB.out | apply fa_ | apply ca_ | apply ga_ | refine qa_ ?_ (ia_.ge HI328.out)) | exact HB.out)) hb); clear HO_6; clear HO_7; clear HO_8; clear HO348; clear HO352; clear HI328; clear HB; have HO_6 := n0_; have HO_7 := n1_; have HO_8 := n2_; have HO348 := n3_; have HO352 := n4_; have HO356 := n5_; have HI328 := n6_; have HB := n7_; clear n0_ n1_ n2_ n3_ n4_ n5_ n6_ n7_; (try clear hb); (try clear hb2); (try clear hk); (try clear hi); (try clear ho0)))
    repeat (go_quiet (first | (go_at_call 27; (with_reducible refine (ge_.calls _ _ x6_1 t345 t346 _ ?side1 ?side2 A19.out).mono ?_); (case side1 => repeat (first | exact (Kd.ta_ HO_6.out).2.2 | (with_reducible refine Kd.yb_ ?_ _) | (with_reducible refine Kd.zb_ ?_ _) | (with_reducible refine Kd.jc_ ?_))); (case side2 => exact (Kd.ta_ HO_6.out).2.1); rintro e w24 ⟨v347, rfl, ho0, hb⟩; have n0_ := ba_.mk (Kd.wb_ (by (with_reducible repeat (first | apply Kd.la_ | apply Kd.ka_ | apply Kd.ma_)); exact HO_6.out) (Kd.rc_ ho0) hb); have n1_ := ba_.mk (Kd.wb_ (by (with_reducible repeat (first | apply Kd.la_ | apply Kd.ka_ | apply Kd.ma_)); exact HO_7.out) (Kd.rc_ ho0) hb); have n2_ := ba_.mk (Kd.wb_ (by (with_reducible repeat (first | apply Kd.la_ | apply Kd.ka_ | apply Kd.ma_)); exact HO_8.out) (Kd.rc_ ho0) hb); have n3_ := ba_.mk (Kd.wc_ (Kd.qc_ (Kd.qc_ (Kd.qc_ ho0 (Kd.R_lt (by (with_reducible repeat (first | apply Kd.la_ | apply Kd.ka_ | apply Kd.ma_)); exact HO_6.out))) (Kd.R_lt (by (with_reducible repeat (first | apply Kd.la_ | apply Kd.ka_ | apply Kd.ma_)); exact HO_7.out))) (Kd.R_lt (by (with_reducible repeat (first | apply Kd.la_ | apply Kd.ka_ | apply Kd.ma_)); exact HO_8.out))) (eb_ (by repeat (first | (with_reducible first | exact HB.out | apply fa_ | apply ca_ | apply ga_ | refine qa_ ?_ (ia_.ge HI328.out)) | exact HB.out)))); have n4_ := ba_.mk (ia_.below (by repeat (first | (with_reducible first | exact HI328.out | apply ia_.alloc | apply ia_.drewN | apply ia_.drew | apply ia_.ic_) | exact HI328.out)) hb); have n5_ := ba_.mk (gb_ (by repeat (first | (with_reducible first | exact HB.out | apply fa_ | apply ca_ | apply ga_ | refine qa_ ?_ (ia_.ge HI328.out)) | exact HB.out)) hb); clear HO_6; clear HO_7; clear HO_8; clear HI328; clear HB; have HO_6 := n0_; have HO_7 := n1_; have HO_8 := n2_; have HO348 := n3_; have HI328 := n4_; have HB := n5_; clear n0_ n1_ n2_ n3_ n4_ n5_; (try clear hb); (try clear hb2); (try clear hk); (try clear hi); (try clear ho0); obtain ⟨Ao25, co25, eo25⟩ := Kd.fc_ HO_7.out; subst eo25) | (go_at_call 27; (with_reducible refine (ge_.calls _ _ x7_1 t349 t350 _ ?side1 ?side2 A20.out).mono ?_); (case side1 => repeat (first | exact (Kd.ta_ HO_7.out).2.2 | (with_reducible refine Kd.yb_ ?_ _) | (with_reducible refine Kd.zb_ ?_ _) | (with_reducible refine Kd.jc_ ?_))); (case side2 => exact (Kd.ta_ HO_7.out).2.1); rintro e w26 ⟨v351, rfl, ho0, hb⟩; have n0_ := ba_.mk (Kd.wb_ (by (with_reducible repeat (first | apply Kd.la_ | apply Kd.ka_ | apply Kd.ma_)); exact HO_6.out) (Kd.rc_ ho0) hb); have n1_ := ba_.mk (Kd.wb_ (by (with_reducible repeat (first | apply Kd.la_ | apply Kd.ka_ | apply Kd.ma_)); exact HO_7.out) (Kd.rc_ ho0) hb); have n2_ := ba_.mk (Kd.wb_ (by (with_reducible repeat (first | apply Kd.la_ | apply Kd.ka_ | apply Kd.ma_)); exact HO_8.out) (Kd.rc_ ho0) hb); have n3_ := ba_.mk (Kd.wb_ (by (with_reducible repeat (first | apply Kd.la_ | apply Kd.ka_ | apply Kd.ma_)); exact HO348.out) (Kd.rc_ ho0) hb); have n4_ := ba_.mk (Kd.wc_ (Kd.qc_ (Kd.qc_ (Kd.qc_ (Kd.qc_ ho0 (Kd.R_lt (by (with_reducible repeat (first | apply Kd.la_ | apply Kd.ka_ | apply Kd.ma_)); exact HO_6.out))) (Kd.R_lt (by (with_reducible repeat (first | apply Kd.la_ | apply Kd.ka_ | apply Kd.ma_)); exact HO_7.out))) (Kd.R_lt (by (with_reducible repeat (first | apply Kd.la_ | apply Kd.ka_ | apply Kd.ma_)); exact HO_8.out))) (Kd.R_lt (by (with_reducible repeat (first | apply Kd.la_ | apply Kd.ka_ | apply Kd.ma_)); exact HO348.out))) (eb_ (by repeat (first | (with_reducible first | exact HB.out | apply fa_ | apply ca_ | apply ga_ | refine qa_ ?_ (ia_.ge HI328.out)) | exact HB.out)))); have n5_ := ba_.mk (ia_.below (by repeat (first | (with_reducible first | exact HI328.out | apply ia_.alloc | apply ia_.drewN | apply ia_.drew | apply ia_.ic_) | exact HI328.out)) hb); have n6_ := ba_.mk (gb_ (by repeat (first | (with_reducible first | exact HB.out | apply fa_ | apply ca_ | apply ga_ | refine qa_ ?_ (ia_.ge HI328.out)) | exact HB.out)) hb); clear HO_6; clear HO_7; clear HO_8; clear HO348; clear HI328; clear HB; have HO_6 := n0_; have HO_7 := n1_; have HO_8 := n2_; have HO348 := n3_; have HO352 := n4_; have HI328 := n5_; have HB := n6_; clear n0_ n1_ n2_ n3_ n4_ n5_ n6_; (try clear hb); (try clear hb2); (try clear hk); (try clear hi); (try clear ho0); obtain ⟨Ao27, co27, eo27⟩ := Kd.fc_ HO_8.out; subst eo27) | (go_at_call 27; (with_reducible refine (ge_.calls _ _ x8_1 t353 t354 _ ?side1 ?side2 A21.out).mono ?_); (case side1 => repeat (first | exact (Kd.ta_ HO_8.out).2.2 | (with_reducible refine Kd.yb_ ?_ _) | (with_reducible refine Kd.zb_ ?_ _) | (with_reducible refine Kd.jc_ ?_))); (case side2 => exact (Kd.ta_ HO_8.out).2.1); rintro e w28 ⟨v355, rfl, ho0, hb⟩; have n0_ := ba_.mk (Kd.wb_ (by (with_reducible repeat (first | apply Kd.la_ | apply Kd.ka_ | apply Kd.ma_)); exact HO_6.out) (Kd.rc_ ho0) hb); have n1_ := ba_.mk (Kd.wb_ (by (with_reducible repeat (first | apply Kd.la_ | apply Kd.ka_ | apply Kd.ma_)); exact HO_7.out) (Kd.rc_ ho0) hb); have n2_ := ba_.mk (Kd.wb_ (by (with_reducible repeat (first | apply Kd.la_ | apply Kd.ka_ | apply Kd.ma_)); exact HO_8.out) (Kd.rc_ ho0) hb); have n3_ := ba_.mk (Kd.wb_ (by (with_reducible repeat (first | apply Kd.la_ | apply Kd.ka_ | apply Kd.ma_)); exact HO348.out) (Kd.rc_ ho0) hb); have n4_ := ba_.mk (Kd.wb_ (by (with_reducible repeat (first | apply Kd.la_ | apply Kd.ka_ | apply Kd.ma_)); exact HO352.out) (Kd.rc_ ho0) hb); have n5_ := ba_.mk (Kd.wc_ (Kd.qc_ (Kd.qc_ (Kd.qc_ (Kd.qc_ (Kd.qc_ ho0 (Kd.R_lt (by (with_reducible repeat (first | apply Kd.la_ | apply Kd.ka_ | apply Kd.ma_)); exact HO_6.out))) (Kd.R_lt (by (with_reducible repeat (first | apply Kd.la_ | apply Kd.ka_ | apply Kd.ma_)); exact HO_7.out))) (Kd.R_lt (by (with_reducible repeat (first | apply Kd.la_ | apply Kd.ka_ | apply Kd.ma_)); exact HO_8.out))) (Kd.R_lt (by (with_reducible repeat (first | apply Kd.la_ | apply Kd.ka_ | apply Kd.ma_)); exact HO348.out))) (Kd.R_lt (by (with_reducible repeat (first | apply Kd.la_ | apply Kd.ka_ | apply Kd.ma_)); exact HO352.out))) (eb_ (by repeat (first | (with_reducible first | exact HB.out | apply fa_ | apply ca_ | apply ga_ | refine qa_ ?_ (ia_.ge HI328.out)) | exact HB.out)))); have n6_ := ba_.mk (ia_.below (by repeat (first | (with_reducible first | exact HI328.out | apply ia_.alloc | apply ia_.drewN | apply ia_.drew | apply ia_.ic_) | exact HI328.out)) hb); have n7_ := ba_.mk (gb_ (by repeat (first | (with_reducible first | exact HB.out | apply fa_ | apply ca_ | apply ga_ | refine qa_ ?_ (ia_.ge HI328.out)) | exact HB.out)) hb); clear HO_6; clear HO_7; clear HO_8; clear HO348; clear HO352; clear HI328; clear HB; have HO_6 := n0_; have HO_7 := n1_; have HO_8 := n2_; have HO348 := n3_; have HO352 := n4_; have HO356 := n5_; have HI328 := n6_; have HB := n7_; clear n0_ n1_ n2_ n3_ n4_ n5_ n6_ n7_; (try clear hb); (try clear hb2); (try clear hk); (try clear hi); (try clear ho0))); go_upto_region 12 with (first | (go_at_call 27; (with_reducible refine (ge_.calls _ _ x6_1 t345 t346 _ ?side1 ?side2 A19.out).mono ?_); (case side1 => repeat (first | exact (Kd.ta_ HO_6.out).2.2 | (with_reducible refine Kd.yb_ ?_ _) | (with_reducible refine Kd.zb_ ?_ _) | (with_reducible refine Kd.jc_ ?_))); (case side2 => exact (Kd.ta_ HO_6.out).2.1); rintro e w24 ⟨v347, rfl, ho0, hb⟩; have n0_ := ba_.mk (Kd.wb_ (by (with_reducible repeat (first | apply Kd.la_ | apply Kd.ka_ | apply Kd.ma_)); exact HO_6.out) (Kd.rc_ ho0) hb); have n1_ := ba_.mk (Kd.wb_ (by (with_reducible repeat (first | apply Kd.la_ | apply Kd.ka_ | apply Kd.ma_)); exact HO_7.out) (Kd.rc_ ho0) hb); have n2_ := ba_.mk (Kd.wb_ (by (with_reducible repeat (first | apply Kd.la_ | apply Kd.ka_ | apply Kd.ma_)); exact HO_8.out) (Kd.rc_ ho0) hb); have n3_ := ba_.mk (Kd.wc_ (Kd.qc_ (Kd.qc_ (Kd.qc_ ho0 (Kd.R_lt (by (with_reducible repeat (first | apply Kd.la_ | apply Kd.ka_ | apply Kd.ma_)); exact HO_6.out))) (Kd.R_lt (by (with_reducible repeat (first | apply Kd.la_ | apply Kd.ka_ | apply Kd.ma_)); exact HO_7.out))) (Kd.R_lt (by (with_reducible repeat (first | apply Kd.la_ | apply Kd.ka_ | apply Kd.ma_)); exact HO_8.out))) (eb_ (by repeat (first | (with_reducible first | exact HB.out | apply fa_ | apply ca_ | apply ga_ | refine qa_ ?_ (ia_.ge HI328.out)) | exact HB.out)))); have n4_ := ba_.mk (ia_.below (by repeat (first | (with_reducible first | exact HI328.out | apply ia_.alloc | apply ia_.drewN | apply ia_.drew | apply ia_.ic_) | exact HI328.out)) hb); have n5_ := ba_.mk (gb_ (by repeat (first | (with_reducible first | exact HB.out | apply fa_ | apply ca_ | apply ga_ | refine qa_ ?_ (ia_.ge HI328.out)) | exact HB.out)) hb); clear HO_6; clear HO_7; clear HO_8; clear HI328; clear HB; have HO_6 := n0_; have HO_7 := n1_; have HO_8 := n2_; have HO348 := n3_; have HI328 := n4_; have HB := n5_; clear n0_ n1_ n2_ n3_ n4_ n5_; (try clear hb); (try clear hb2); (try clear hk); (try clear hi); (try clear ho0); obtain ⟨Ao25, co25, eo25⟩ := Kd.fc_ HO_7.out; subst eo25) | (go_at_call 27; (with_reducible refine (ge_.calls _ _ x7_1 t349 t350 _ ?side1 ?side2 A20.out).mono ?_); (case side1 => repeat (first | exact (Kd.ta_ HO_7.out).2.2 | (with_reducible refine Kd.yb_ ?_ _) | (with_reducible refine Kd.zb_ ?_ _) | (with_reducible refine Kd.jc_ ?_))); (case side2 => exact (Kd.ta_ HO_7.out).2.1); rintro e w26 ⟨v351, rfl, ho0, hb⟩; have n0_ := ba_.mk (Kd.wb_ (by (with_reducible repeat (first | apply Kd.la_ | apply Kd.ka_ | apply Kd.ma_)); exact HO_6.out) (Kd.rc_ ho0) hb); have n1_ := ba_.mk (Kd.wb_ (by (with_reducible repeat (first | apply Kd.la_ | apply Kd.ka_ | apply Kd.ma_)); exact HO_7.out) (Kd.rc_ ho0) hb); have n2_ := ba_.mk (Kd.wb_ (by (with_reducible repeat (first | apply Kd.la_ | apply Kd.ka_ | apply Kd.ma_)); exact HO_8.out) (Kd.rc_ ho0) hb); have n3_ := ba_.mk (Kd.wb_ (by (with_reducible repeat (first | apply Kd.la_ | apply Kd.ka_ | apply Kd.ma_)); exact HO348.out) (Kd.rc_ ho0) hb); have n4_ := ba_.mk (Kd.wc_ (Kd.qc_ (Kd.qc_ (Kd.qc_ (Kd.qc_ ho0 (Kd.R_lt (by (with_reducible repeat (first | apply Kd.la_ | apply Kd.ka_ | apply Kd.ma_)); exact HO_6.out))) (Kd.R_lt (by (with_reducible repeat (first | apply Kd.la_ | apply Kd.ka_ | apply Kd.ma_)); exact HO_7.out))) (Kd.R_lt (by (with_reducible repeat (first | apply Kd.la_ | apply Kd.ka_ | apply Kd.ma_)); exact HO_8.out))) (Kd.R_lt (by (with_reducible repeat (first | apply Kd.la_ | apply Kd.ka_ | apply Kd.ma_)); exact HO348.out))) (eb_ (by repeat (first | (with_reducible first | exact HB.out | apply fa_ | apply ca_ | apply ga_ | refine qa_ ?_ (ia_.ge HI328.out)) | exact HB.out)))); have n5_ := ba_.mk (ia_.below (by repeat (first | (with_reducible first | exact HI328.out | apply ia_.alloc | apply ia_.drewN | apply ia_.drew | apply ia_.ic_) | exact HI328.out)) hb); have n6_ := ba_.mk (gb_ (by repeat (first | (with_reducible first | exact HB.out | apply fa_ | apply ca_ | apply ga_ | refine qa_ ?_ (ia_.ge HI328.out)) | exact HB.out)) hb); clear HO_6; clear HO_7; clear HO_8; clear HO348; clear HI328; clear HB; have HO_6 := n0_; have HO_7 := n1_; have HO_8 := n2_; have HO348 := n3_; have HO352 := n4_; have HI328 := n5_; have HB := n6_; clear n0_ n1_ n2_ n3_ n4_ n5_ n6_; (try clear hb); (try clear hb2); (try clear hk); (try clear hi); (try clear ho0); obtain ⟨Ao27, co27, eo27⟩ := Kd.fc_ HO_8.out; subst eo27) | (go_at_call 27; (with_reducible refine (ge_.calls _ _ x8_1 t353 t354 _ ?side1 ?side2 A21.out).mono ?_); (case side1 => repeat (first | exact (Kd.ta_ HO_8.out).2.2 | (with_reducible refine Kd.yb_ ?_ _) | (with_reducible refine Kd.zb_ ?_ _) | (with_reducible refine Kd.jc_ ?_))); (case side2 => exact (Kd.ta_ HO_8.out).2.1); rintro e w28 ⟨v355, rfl, ho0, hb⟩; have n0_ := ba_.mk (Kd.wb_ (by (with_reducible repeat (first | apply Kd.la_ | apply Kd.ka_ | apply Kd.ma_)); exact HO_6.out) (Kd.rc_ ho0) hb); have n1_ := ba_.mk (Kd.wb_ (by (with_reducible repeat (first | apply Kd.la_ | apply Kd.ka_ | apply Kd.ma_)); exact HO_7.out) (Kd.rc_ ho0) hb); have n2_ := ba_.mk (Kd.wb_ (by (with_reducible repeat (first | apply Kd.la_ | apply Kd.ka_ | apply Kd.ma_)); exact HO_8.out) (Kd.rc_ ho0) hb); have n3_ := ba_.mk (Kd.wb_ (by (with_reducible repeat (first | apply Kd.la_ | apply Kd.ka_ | apply Kd.ma_)); exact HO348.out) (Kd.rc_ ho0) hb); have n4_ := ba_.mk (Kd.wb_ (by (with_reducible repeat (first | apply Kd.la_ | apply Kd.ka_ | apply Kd.ma_)); exact HO352.out) (Kd.rc_ ho0) hb); have n5_ := ba_.mk (Kd.wc_ (Kd.qc_ (Kd.qc_ (Kd.qc_ (Kd.qc_ (Kd.qc_ ho0 (Kd.R_lt (by (with_reducible repeat (first | apply Kd.la_ | apply Kd.ka_ | apply Kd.ma_)); exact HO_6.out))) (Kd.R_lt (by (with_reducible repeat (first | apply Kd.la_ | apply Kd.ka_ | apply Kd.ma_)); exact HO_7.out))) (Kd.R_lt (by (with_reducible repeat (first | apply Kd.la_ | apply Kd.ka_ | apply Kd.ma_)); exact HO_8.out))) (Kd.R_lt (by (with_reducible repeat (first | apply Kd.la_ | apply Kd.ka_ | apply Kd.ma_)); exact HO348.out))) (Kd.R_lt (by (with_reducible repeat (first | apply Kd.la_ | apply Kd.ka_ | apply Kd.ma_)); exact HO352.out))) (eb_ (by repeat (first | (with_reducible first | exact HB.out | apply fa_ | apply ca_ | apply ga_ | refine qa_ ?_ (ia_.ge HI328.out)) | exact HB.out)))); have n6_ := ba_.mk (ia_.below (by repeat (first | (with_reducible first | exact HI328.out | apply ia_.alloc | apply ia_.drewN | apply ia_.drew | apply ia_.ic_) | exact HI328.out)) hb); have n7_ := ba_.mk (gb_ (by repeat (first | (with_reducible first | exact HB.out | apply fa_ | apply ca_ | apply ga_ | refine qa_ ?_ (ia_.ge HI328.out)) | exact HB.out)) hb); clear HO_6; clear HO_7; clear HO_8; clear HO348; clear HO352; clear HI328; clear HB; have HO_6 := n0_; have HO_7 := n1_; have HO_8 := n2_; have HO348 := n3_; have HO352 := n4_; have HO356 := n5_; have HI328 := n6_; have HB := n7_; clear n0_ n1_ n2_ n3_ n4_ n5_ n6_ n7_; (try clear hb); (try clear hb2); (try clear hk); (try clear hi); (try clear ho0))))
    (try simp only [Act.put, List.setIfInBounds_toArray, List.set_cons_zero, List.set_cons_succ])
    go_cut [97] (fun v97 wc => ∃ (kq : Nat) (x97_21 : Bool), v97 = .bool x97_21 ∧ ba_ (pa_.j1 kq x6_1 (wrap64 (Int.tmod a1 32)) t345 t349 t353 x97_21 = some r) ∧ ba_ (kq ≤ k1) ∧ ba_ (Kd.R (Kd.int .i64) 3 wc w.heap.size (fun k_ => some k_ ≠ (v347 : Value).ownBlock ∧ some k_ ≠ (v351 : Value).ownBlock ∧ some k_ ≠ (v355 : Value).ownBlock) (.slice Ao23 x6_1.length co23) x6_1) ∧ ba_ (Kd.R (Kd.int .i64) 3 wc w.heap.size (fun k_ => some k_ ≠ ((.slice Ao23 x6_1.length co23) : Value).ownBlock ∧ some k_ ≠ (v351 : Value).ownBlock ∧ some k_ ≠ (v355 : Value).ownBlock) v347 t345) ∧ ba_ (Kd.R (Kd.int .i64) 3 wc w.heap.size (fun k_ => some k_ ≠ ((.slice Ao23 x6_1.length co23) : Value).ownBlock ∧ some k_ ≠ (v347 : Value).ownBlock ∧ some k_ ≠ (v355 : Value).ownBlock) v351 t349) ∧ ba_ (Kd.R (Kd.int .i64) 3 wc w.heap.size (fun k_ => some k_ ≠ ((.slice Ao23 x6_1.length co23) : Value).ownBlock ∧ some k_ ≠ (v347 : Value).ownBlock ∧ some k_ ≠ (v351 : Value).ownBlock) v355 t353) ∧ ba_ (Below w.heap.size w wc))
    case first =>
     have H := HC22.out
     clear HC22
     by_cases c29 : t346 = 0
     ·rw [if_pos c29] at H
      have c29b0 : (t346 == 0) = true := beq_iff_eq.mpr c29
      have c29b1 : (t346 != 0) = false := bne_eq_false_iff_eq.mpr c29
      clear c29
      (first | rw [c29b0] | (simp only [gc_, lc_]; rw [c29b0]) | skip)
      by_cases c30 : t350 = 0
      ·rw [if_pos c30] at H
       have c30b0 : (t350 == 0) = true := beq_iff_eq.mpr c30
       have c30b1 : (t350 != 0) = false := bne_eq_false_iff_eq.mpr c30
       clear c30
       by_cases c31 : t354 = 0
       ·rw [if_pos c31] at H
        have c31b0 : (t354 == 0) = true := beq_iff_eq.mpr c31
        have c31b1 : (t354 != 0) = false := bne_eq_false_iff_eq.mpr c31
        clear c31
        by_cases c32 : (t345.length : Int) = (t349.length : Int)
        ·rw [if_pos c32] at H
         have c32b0 : ((t345.length : Int) == (t349.length : Int)) = true := beq_iff_eq.mpr c32
         try have c32b9 := eq_true (beq_iff_eq.mp c32b0)
         have c32b1 : ((t345.length : Int) != (t349.length : Int)) = false := bne_eq_false_iff_eq.mpr c32
         have c32b2 : (t345.length == t349.length) = true := by first | simpa using c32 | (simp at c32 ⊢; omega)
         clear c32
         by_cases c33 : (t349.length : Int) = (t353.length : Int)
         ·rw [if_pos c33] at H
          have c33b0 : ((t349.length : Int) == (t353.length : Int)) = true := beq_iff_eq.mpr c33
          try have c33b9 := eq_true (beq_iff_eq.mp c33b0)
          have c33b1 : ((t349.length : Int) != (t353.length : Int)) = false := bne_eq_false_iff_eq.mpr c33
          have c33b2 : (t349.length == t353.length) = true := by first | simpa using c33 | (simp at c33 ⊢; omega)
          clear c33
          have H' := ba_.mk H
          clear H
          obtain ⟨Ao34, co34, eo34⟩ := Kd.fc_ HO348.out
          subst eo34
          obtain ⟨Ao35, co35, eo35⟩ := Kd.fc_ HO352.out
          subst eo35
          obtain ⟨Ao36, co36, eo36⟩ := Kd.fc_ HO356.out
          subst eo36
          go_wp2
          repeat (go_quiet (fail); try go_wp2)
          go_meet
          case rel => exact ⟨_, (((t345.length : Int) != (wrap64 ((x6_1.length : Int) + 6)))), (by first | rfl | (simp; done) | (simp [*]; done)), H', ⟨by have := HK1.out; first | omega | exact Nat.le_refl _⟩, ⟨by (with_reducible repeat (first | apply Kd.la_ | apply Kd.ka_ | apply Kd.ma_)); exact Kd.bc_ HO_6.out (fun _ hk => ⟨hk.1.1.2, ⟨hk.1.2, hk.2⟩⟩)⟩, ⟨by (with_reducible repeat (first | apply Kd.la_ | apply Kd.ka_ | apply Kd.ma_)); exact Kd.bc_ HO348.out (fun _ hk => ⟨hk.1.1.1.1.2, ⟨hk.1.2, hk.2⟩⟩)⟩, ⟨by (with_reducible repeat (first | apply Kd.la_ | apply Kd.ka_ | apply Kd.ma_)); exact Kd.bc_ HO352.out (fun _ hk => ⟨hk.1.1.1.1.2, ⟨hk.1.2, hk.2⟩⟩)⟩, ⟨by (with_reducible repeat (first | apply Kd.la_ | apply Kd.ka_ | apply Kd.ma_)); exact Kd.bc_ HO356.out (fun _ hk => ⟨hk.1.1.1.1.2, ⟨hk.1.2, hk.2⟩⟩)⟩, ⟨by repeat (first | (with_reducible first | exact HB.out | apply fa_ | apply ca_ | apply ga_ | refine qa_ ?_ (ia_.ge HI328.out)) | exact HB.out)⟩⟩
         ·rw [if_neg c33] at H
          have c33b0 : ((t349.length : Int) == (t353.length : Int)) = false := beq_eq_false_iff_ne.mpr c33
          try have c33b9 := eq_false (beq_eq_false_iff_ne.mp c33b0)
          have c33b1 : ((t349.length : Int) != (t353.length : Int)) = true := bne_iff_ne.mpr c33
          have c33b2 : (t349.length == t353.length) = false := by first | simpa using c33 | (simp at c33 ⊢; omega)
          have H' := ba_.mk H
          clear H
          obtain ⟨Ao37, co37, eo37⟩ := Kd.fc_ HO348.out
          subst eo37
          obtain ⟨Ao38, co38, eo38⟩ := Kd.fc_ HO352.out
          subst eo38
          obtain ⟨Ao39, co39, eo39⟩ := Kd.fc_ HO356.out
          subst eo39
          go_wp2
          repeat (go_quiet (fail); try go_wp2)
          go_meet
          case rel => exact ⟨_, (true), (by first | rfl | (simp; done) | (simp [*]; done)), H', ⟨by have := HK1.out; first | omega | exact Nat.le_refl _⟩, ⟨by (with_reducible repeat (first | apply Kd.la_ | apply Kd.ka_ | apply Kd.ma_)); exact Kd.bc_ HO_6.out (fun _ hk => ⟨hk.1.1.2, ⟨hk.1.2, hk.2⟩⟩)⟩, ⟨by (with_reducible repeat (first | apply Kd.la_ | apply Kd.ka_ | apply Kd.ma_)); exact Kd.bc_ HO348.out (fun _ hk => ⟨hk.1.1.1.1.2, ⟨hk.1.2, hk.2⟩⟩)⟩, ⟨by (with_reducible repeat (first | apply Kd.la_ | apply Kd.ka_ | apply Kd.ma_)); exact Kd.bc_ HO352.out (fun _ hk => ⟨hk.1.1.1.1.2, ⟨hk.1.2, hk.2⟩⟩)⟩, ⟨by (with_reducible repeat (first | apply Kd.la_ | apply Kd.ka_ | apply Kd.ma_)); exact Kd.bc_ HO356.out (fun _ hk => ⟨hk.1.1.1.1.2, ⟨hk.1.2, hk.2⟩⟩)⟩, ⟨by repeat (first | (with_reducible first | exact HB.out | apply fa_ | apply ca_ | apply ga_ | refine qa_ ?_ (ia_.ge HI328.out)) | exact HB.out)⟩⟩
        ·rw [if_neg c32] at H
         have c32b0 : ((t345.length : Int) == (t349.length : Int)) = false := beq_eq_false_iff_ne.mpr c32
         try have c32b9 := eq_false (beq_eq_false_iff_ne.mp c32b0)
         have c32b1 : ((t345.length : Int) != (t349.length : Int)) = true := bne_iff_ne.mpr c32
         have c32b2 : (t345.length == t349.length) = false := by first | simpa using c32 | (simp at c32 ⊢; omega)
         have H' := ba_.mk H
         clear H
         obtain ⟨Ao40, co40, eo40⟩ := Kd.fc_ HO348.out
         subst eo40
         obtain ⟨Ao41, co41, eo41⟩ := Kd.fc_ HO352.out
         subst eo41
         go_wp2
         repeat (go_quiet (fail); try go_wp2)
         go_meet
         case rel => exact ⟨_, (true), (by first | rfl | (simp; done) | (simp [*]; done)), H', ⟨by have := HK1.out; first | omega | exact Nat.le_refl _⟩, ⟨by (with_reducible repeat (first | apply Kd.la_ | apply Kd.ka_ | apply Kd.ma_)); exact Kd.bc_ HO_6.out (fun _ hk => ⟨hk.1.1.2, ⟨hk.1.2, hk.2⟩⟩)⟩, ⟨by (with_reducible repeat (first | apply Kd.la_ | apply Kd.ka_ | apply Kd.ma_)); exact Kd.bc_ HO348.out (fun _ hk => ⟨hk.1.1.1.1.2, ⟨hk.1.2, hk.2⟩⟩)⟩, ⟨by (with_reducible repeat (first | apply Kd.la_ | apply Kd.ka_ | apply Kd.ma_)); exact Kd.bc_ HO352.out (fun _ hk => ⟨hk.1.1.1.1.2, ⟨hk.1.2, hk.2⟩⟩)⟩, ⟨by (with_reducible repeat (first | apply Kd.la_ | apply Kd.ka_ | apply Kd.ma_)); exact Kd.bc_ HO356.out (fun _ hk => ⟨hk.1.1.1.1.2, ⟨hk.1.2, hk.2⟩⟩)⟩, ⟨by repeat (first | (with_reducible first | exact HB.out | apply fa_ | apply ca_ | apply ga_ | refine qa_ ?_ (ia_.ge HI328.out)) | exact HB.out)⟩⟩
       ·rw [if_neg c31] at H
        have c31b0 : (t354 == 0) = false := beq_eq_false_iff_ne.mpr c31
        have c31b1 : (t354 != 0) = true := bne_iff_ne.mpr c31
        have H' := ba_.mk H
        clear H
        go_wp2
        repeat (go_quiet (fail); try go_wp2)
        go_meet
        case rel => exact ⟨_, (true), (by first | rfl | (simp; done) | (simp [*]; done)), H', ⟨by have := HK1.out; first | omega | exact Nat.le_refl _⟩, ⟨by (with_reducible repeat (first | apply Kd.la_ | apply Kd.ka_ | apply Kd.ma_)); exact Kd.bc_ HO_6.out (fun _ hk => ⟨hk.1.1.2, ⟨hk.1.2, hk.2⟩⟩)⟩, ⟨by (with_reducible repeat (first | apply Kd.la_ | apply Kd.ka_ | apply Kd.ma_)); exact Kd.bc_ HO348.out (fun _ hk => ⟨hk.1.1.1.1.2, ⟨hk.1.2, hk.2⟩⟩)⟩, ⟨by (with_reducible repeat (first | apply Kd.la_ | apply Kd.ka_ | apply Kd.ma_)); exact Kd.bc_ HO352.out (fun _ hk => ⟨hk.1.1.1.1.2, ⟨hk.1.2, hk.2⟩⟩)⟩, ⟨by (with_reducible repeat (first | apply Kd.la_ | apply Kd.ka_ | apply Kd.ma_)); exact Kd.bc_ HO356.out (fun _ hk => ⟨hk.1.1.1.1.2, ⟨hk.1.2, hk.2⟩⟩)⟩, ⟨by repeat (first | (with_reducible first | exact HB.out | apply fa_ | apply ca_ | apply ga_ | refine qa_ ?_ (ia_.ge HI328.out)) | exact HB.out)⟩⟩
      ·rw [if_neg c30] at H
       have c30b0 : (t350 == 0) = false := beq_eq_false_iff_ne.mpr c30
       have c30b1 : (t350 != 0) = true := bne_iff_ne.mpr c30
       have H' := ba_.mk H
       clear H
       go_wp2
       repeat (go_quiet (fail); try go_wp2)
       go_meet
       case rel => exact ⟨_, (true), (by first | rfl | (simp; done) | (simp [*]; done)), H', ⟨by have := HK1.out; first | omega | exact Nat.le_refl _⟩, ⟨by (with_reducible repeat (first | apply Kd.la_ | apply Kd.ka_ | apply Kd.ma_)); exact Kd.bc_ HO_6.out (fun _ hk => ⟨hk.1.1.2, ⟨hk.1.2, hk.2⟩⟩)⟩, ⟨by (with_reducible repeat (first | apply Kd.la_ | apply Kd.ka_ | apply Kd.ma_)); exact Kd.bc_ HO348.out (fun _ hk => ⟨hk.1.1.1.1.2, ⟨hk.1.2, hk.2⟩⟩)⟩, ⟨by (with_reducible repeat (first | apply Kd.la_ | apply Kd.ka_ | apply Kd.ma_)); exact Kd.bc_ HO352.out (fun _ hk => ⟨hk.1.1.1.1.2, ⟨hk.1.2, hk.2⟩⟩)⟩, ⟨by (with_reducible repeat (first | apply Kd.la_ | apply Kd.ka_ | apply Kd.ma_)); exact Kd.bc_ HO356.out (fun _ hk => ⟨hk.1.1.1.1.2, ⟨hk.1.2, hk.2⟩⟩)⟩, ⟨by repeat (first | (with_reducible first | exact HB.out | apply fa_ | apply ca_ | apply ga_ | refine qa_ ?_ (ia_.ge HI328.out)) | exact HB.out)⟩⟩
     ·rw [if_neg c29] at H
      have c29b0 : (t346 == 0) = false := beq_eq_false_iff_ne.mpr c29
      have c29b1 : (t346 != 0) = true := bne_iff_ne.mpr c29
      (first | rw [c29b0] | (simp only [gc_, lc_]; rw [c29b0]) | skip)
      have H' := ba_.mk H
      clear H
      go_wp2
      repeat (go_quiet (fail); try go_wp2)
      go_meet
      case rel => exact ⟨_, (true), (by first | rfl | (simp; done) | (simp [*]; done)), H', ⟨by have := HK1.out; first | omega | exact Nat.le_refl _⟩, ⟨by (with_reducible repeat (first | apply Kd.la_ | apply Kd.ka_ | apply Kd.ma_)); exact Kd.bc_ HO_6.out (fun _ hk => ⟨hk.1.1.2, ⟨hk.1.2, hk.2⟩⟩)⟩, ⟨by (with_reducible repeat (first | apply Kd.la_ | apply Kd.ka_ | apply Kd.ma_)); exact Kd.bc_ HO348.out (fun _ hk => ⟨hk.1.1.1.1.2, ⟨hk.1.2, hk.2⟩⟩)⟩, ⟨by (with_reducible repeat (first | apply Kd.la_ | apply Kd.ka_ | apply Kd.ma_)); exact Kd.bc_ HO352.out (fun _ hk => ⟨hk.1.1.1.1.2, ⟨hk.1.2, hk.2⟩⟩)⟩, ⟨by (with_reducible repeat (first | apply Kd.la_ | apply Kd.ka_ | apply Kd.ma_)); exact Kd.bc_ HO356.out (fun _ hk => ⟨hk.1.1.1.1.2, ⟨hk.1.2, hk.2⟩⟩)⟩, ⟨by repeat (first | (with_reducible first | exact HB.out | apply fa_ | apply ca_ | apply ga_ | refine qa_ ?_ (ia_.ge HI328.out)) | exact HB.out)⟩⟩
    case rest =>
     clear HC22
     try clear c1
     try clear c2
     try clear p2
     try clear c3
     try clear p6
     try clear c7
     try clear c7b0
     try clear c10
     try clear c11
     try clear c13
     try clear c29
     try clear c29b0
     try clear c29b1
     try clear c30
     try clear c30b0
     try clear c30b1
     try clear c31
     try clear c31b0
     try clear c31b1
     try clear c32
     try clear c32b0
     try clear c32b1
     try clear c32b2
     try clear c33
     try clear c33b0
     try clear c33b1
     try clear c33b2
     try clear p2
     try clear p6
     obtain ⟨kq, x97_21, rfl, HA, HJ21, HO_6, HO_13, HO_15, HO_17, HB⟩ := hcut
     cases kq with
     | zero => exact absurd HA.out (by simp [pa_.j1])
     | succ kj21 =>
      have H := HA.out
      clear HA
      simp only [pa_.j1] at H
      by_cases c42 : x97_21 = true
      ·subst c42
       have H1 : (some false) = some r := by rw [if_pos rfl] at H; exact H
       clear H
       have H := H1
       clear H1
       exact absurd ((Option.some.inj H).trans HRT.out) (by decide)
      ·replace c42 := Bool.eq_false_iff.mpr c42
       subst c42
       have H1 : (pa_.l1 kj21 x6_1 (wrap64 (Int.tmod a1 32)) t345 t349 t353 0) = some r := by rw [if_neg (show ¬ (false = true) by decide)] at H; exact H
       clear H
       have H := H1
       clear H1
       have H' := ba_.mk H
       clear H
       go_wp2
       repeat (go_quiet (fail); try go_wp2)
       go_loopg [19] kj21 (fun kq v19 w' => ∃ (x19_3 : Int), v19 = .int .i64 x19_3 ∧ ba_ (pa_.l1 kq x6_1 (wrap64 (Int.tmod a1 32)) t345 t349 t353 x19_3 = some r) ∧ ba_ (kq ≤ kj21) ∧ ba_ (Kd.R (Kd.int .i64) 3 w' w.heap.size (fun k_ => some k_ ≠ (v347 : Value).ownBlock ∧ some k_ ≠ (v351 : Value).ownBlock ∧ some k_ ≠ (v355 : Value).ownBlock) (.slice Ao23 x6_1.length co23) x6_1) ∧ ba_ (Kd.R (Kd.int .i64) 3 w' w.heap.size (fun k_ => some k_ ≠ ((.slice Ao23 x6_1.length co23) : Value).ownBlock ∧ some k_ ≠ (v351 : Value).ownBlock ∧ some k_ ≠ (v355 : Value).ownBlock) v347 t345) ∧ ba_ (Kd.R (Kd.int .i64) 3 w' w.heap.size (fun k_ => some k_ ≠ ((.slice Ao23 x6_1.length co23) : Value).ownBlock ∧ some k_ ≠ (v347 : Value).ownBlock ∧ some k_ ≠ (v355 : Value).ownBlock) v351 t349) ∧ ba_ (Kd.R (Kd.int .i64) 3 w' w.heap.size (fun k_ => some k_ ≠ ((.slice Ao23 x6_1.length co23) : Value).ownBlock ∧ some k_ ≠ (v347 : Value).ownBlock ∧ some k_ ≠ (v351 : Value).ownBlock) v355 t353) ∧ ba_ (Below w.heap.size w w'))
       case atStart => exact ⟨(0), (by first | rfl | (simp; done) | (simp [*]; done)), H', ⟨Nat.le_refl _⟩, ⟨by (with_reducible repeat (first | apply Kd.la_ | apply Kd.ka_ | apply Kd.ma_)); exact HO_6.out⟩, ⟨by (with_reducible repeat (first | apply Kd.la_ | apply Kd.ka_ | apply Kd.ma_)); exact HO_13.out⟩, ⟨by (with_reducible repeat (first | apply Kd.la_ | apply Kd.ka_ | apply Kd.ma_)); exact HO_15.out⟩, ⟨by (with_reducible repeat (first | apply Kd.la_ | apply Kd.ka_ | apply Kd.ma_)); exact HO_17.out⟩, ⟨by repeat (first | (with_reducible first | exact HB.out | apply fa_ | apply ca_ | apply ga_) | exact HB.out)⟩⟩
       case round =>
        clear H'
        try clear c1
        try clear c2
        try clear p2
        try clear c3
        try clear c4
        try clear p6
        try clear c7
        try clear c7b0
        try clear c10
        try clear c11
        try clear c13
        try clear c29
        try clear c29b0
        try clear c29b1
        try clear c30
        try clear c30b0
        try clear c30b1
        try clear c31
        try clear c31b0
        try clear c31b1
        try clear c32
        try clear c32b0
        try clear c32b1
        try clear c32b2
        try clear c33
        try clear c33b0
        try clear c33b1
        try clear c33b2
        try clear c42
        try clear p2
        try clear p6
        obtain ⟨x19_3, rfl, HA, HK3, HO_6, HO_13, HO_15, HO_17, HB⟩ := hrel
        cases gk with
        | zero => exact absurd HA.out (by simp [pa_.l1])
        | succ k3 =>
         have H := HA.out
         clear HA
         simp only [pa_.l1] at H
         by_cases c43 : x19_3 < (t345.length : Int)
         ·rw [if_pos c43] at H
          have c43b0 : decide (x19_3 < (t345.length : Int)) = true := decide_eq_true c43
          clear c43
          by_cases c44 : 0 ≤ x19_3
          ·rw [if_pos c44] at H
           have c44b0 : decide (0 ≤ x19_3) = true := decide_eq_true c44
           clear c44
           by_cases c45 : x19_3 < (t353.length : Int)
           ·rw [if_pos c45] at H
            have c45b0 : decide (x19_3 < (t353.length : Int)) = true := decide_eq_true c45
            clear c45
            replace H := Option.bind_eq_some_iff.mp H
            obtain ⟨t359, A460, H⟩ := H
            replace H : (if x19_3 < (t349.length : Int) then (if (rd t353 x19_3) = (Go.bits .xor .i64 t359 (rd t349 x19_3)) then (pa_.l1 k3 x6_1 (wrap64 (Int.tmod a1 32)) t345 t349 t353 (wrap64 (x19_3 + 1))) else (some false)) else (none)) = some r := H
            have A46 := ba_.mk A460
            clear A460
            by_cases c47 : x19_3 < (t349.length : Int)
            ·rw [if_pos c47] at H
             have c47b0 : decide (x19_3 < (t349.length : Int)) = true := decide_eq_true c47
             clear c47
             by_cases c48 : (rd t353 x19_3) = (Go.bits .xor .i64 t359 (rd t349 x19_3))
             ·rw [if_pos c48] at H
              have c48b0 : ((rd t353 x19_3) == (Go.bits .xor .i64 t359 (rd t349 x19_3))) = true := beq_iff_eq.mpr c48
              try have c48b9 := eq_true (beq_iff_eq.mp c48b0)
              have c48b1 : ((rd t353 x19_3) != (Go.bits .xor .i64 t359 (rd t349 x19_3))) = false := bne_eq_false_iff_eq.mpr c48
              clear c48
              have H' := ba_.mk H
              clear H
              obtain ⟨Ao49, co49, eo49⟩ := Kd.fc_ HO_13.out
              subst eo49
              obtain ⟨Ao50, co50, eo50⟩ := Kd.fc_ HO_17.out
              subst eo50
              have p357 : 0 ≤ (x19_3 : Int) := of_decide_eq_true (by first | (with_reducible assumption) | assumption)
              have q357 : x19_3 < (t353.length : Int) := of_decide_eq_true (by first | (with_reducible assumption) | assumption)
              obtain ⟨ad357, e357, hx357_0⟩ := Kd.nd_ (Kd.ta_ HO_17.out).2.2 x19_3 p357 q357
              cases e357
              replace p357 := eq_true p357
              replace q357 := eq_true q357
              have p358 : 0 ≤ (x19_3 : Int) := of_decide_eq_true (by first | (with_reducible assumption) | assumption)
              have q358 : x19_3 < (t345.length : Int) := of_decide_eq_true (by first | (with_reducible assumption) | assumption)
              obtain ⟨ad358, e358, hx358_0⟩ := Kd.nd_ (Kd.ta_ HO_13.out).2.2 x19_3 p358 q358
              cases e358
              replace p358 := eq_true p358
              replace q358 := eq_true q358
              go_wp2_with (first | (go_at_call 15; (with_reducible refine (ud_.calls (rd t345 x19_3) (wrap64 (Int.tmod a1 32)) t359 _ A46.out).mono ?_); rintro e w' ⟨rfl, ⟨nd, rfl⟩⟩; (try first | exact ⟨rfl, _, World.drewN_drewN _ _ _⟩ | exact ⟨rfl, _, Eq.trans (World.drewN_drewN _ _ _) (congrArg (World.drewN _) (Nat.add_assoc _ _ _))⟩); obtain ⟨Ao51, co51, eo51⟩ := Kd.fc_ HO_15.out; subst eo51; have p360 : 0 ≤ (x19_3 : Int) := of_decide_eq_true (by first | (with_reducible assumption) | assumption); have q360 : x19_3 < (t349.length : Int) := of_decide_eq_true (by first | (with_reducible assumption) | assumption); obtain ⟨ad360, e360, hx360_0⟩ := Kd.nd_ (Kd.ta_ HO_15.out).2.2 x19_3 p360 q360; cases e360; replace p360 := eq_true p360; replace q360 := eq_true q360))
              repeat (go_quiet (first | (go_at_call 15; (with_reducible refine (ud_.calls (rd t345 x19_3) (wrap64 (Int.tmod a1 32)) t359 _ A46.out).mono ?_); rintro e w' ⟨rfl, ⟨nd, rfl⟩⟩; (try first | exact ⟨rfl, _, World.drewN_drewN _ _ _⟩ | exact ⟨rfl, _, Eq.trans (World.drewN_drewN _ _ _) (congrArg (World.drewN _) (Nat.add_assoc _ _ _))⟩); obtain ⟨Ao51, co51, eo51⟩ := Kd.fc_ HO_15.out; subst eo51; have p360 : 0 ≤ (x19_3 : Int) := of_decide_eq_true (by first | (with_reducible assumption) | assumption); have q360 : x19_3 < (t349.length : Int) := of_decide_eq_true (by first | (with_reducible assumption) | assumption); obtain ⟨ad360, e360, hx360_0⟩ := Kd.nd_ (Kd.ta_ HO_15.out).2.2 x19_3 p360 q360; cases e360; replace p360 := eq_true p360; replace q360 := eq_true q360)); try go_wp2_with (first | (go_at_call 15; (with_reducible refine (ud_.calls (rd t345 x19_3) (wrap64 (Int.tmod a1 32)) t359 _ A46.out).mono ?_); rintro e w' ⟨rfl, ⟨nd, rfl⟩⟩; (try first | exact ⟨rfl, _, World.drewN_drewN _ _ _⟩ | exact ⟨rfl, _, Eq.trans (World.drewN_drewN _ _ _) (congrArg (World.drewN _) (Nat.add_assoc _ _ _))⟩); obtain ⟨Ao51, co51, eo51⟩ := Kd.fc_ HO_15.out; subst eo51; have p360 : 0 ≤ (x19_3 : Int) := of_decide_eq_true (by first | (with_reducible assumption) | assumption); have q360 : x19_3 < (t349.length : Int) := of_decide_eq_true (by first | (with_reducible assumption) | assumption); obtain ⟨ad360, e360, hx360_0⟩ := Kd.nd_ (Kd.ta_ HO_15.out).2.2 x19_3 p360 q360; cases e360; replace p360 := eq_true p360; replace q360 := eq_true q360)))
              go_roundg k3
              case measure => have := HK1.out; have := HJ21.out; have := HK3.out; omega
              case rel => exact ⟨(wrap64 (x19_3 + 1)), (by first | rfl | (simp; done) | (simp [*]; done)), H', ⟨by have := HK1.out; have := HJ21.out; have := HK3.out; omega⟩, ⟨by (with_reducible repeat (first | apply Kd.la_ | apply Kd.ka_ | apply Kd.ma_)); exact HO_6.out⟩, ⟨by (with_reducible repeat (first | apply Kd.la_ | apply Kd.ka_ | apply Kd.ma_)); exact HO_13.out⟩, ⟨by (with_reducible repeat (first | apply Kd.la_ | apply Kd.ka_ | apply Kd.ma_)); exact HO_15.out⟩, ⟨by (with_reducible repeat (first | apply Kd.la_ | apply Kd.ka_ | apply Kd.ma_)); exact HO_17.out⟩, ⟨by repeat (first | (with_reducible first | exact HB.out | apply fa_ | apply ca_ | apply ga_) | exact HB.out)⟩⟩
             ·rw [if_neg c48] at H
              have c48b0 : ((rd t353 x19_3) == (Go.bits .xor .i64 t359 (rd t349 x19_3))) = false := beq_eq_false_iff_ne.mpr c48
              try have c48b9 := eq_false (beq_eq_false_iff_ne.mp c48b0)
              have c48b1 : ((rd t353 x19_3) != (Go.bits .xor .i64 t359 (rd t349 x19_3))) = true := bne_iff_ne.mpr c48
              exact absurd ((Option.some.inj H).trans HRT.out) (by decide)
            ·rw [if_neg c47] at H
             exact absurd H (by simp)
           ·rw [if_neg c45] at H
            exact absurd H (by simp)
          ·rw [if_neg c44] at H
           exact absurd H (by simp)
         ·rw [if_neg c43] at H
          have c43b0 : decide (x19_3 < (t345.length : Int)) = false := decide_eq_false c43
          clear c43
          replace H := Option.bind_eq_some_iff.mp H
          obtain ⟨t361, A550, H⟩ := H
          replace H : (if t361 = true then ((ee_.f t353).bind fun t362 => (if t362 = true then (if 0 ≤ (x6_1.length : Int) then (if (x6_1.length : Int) ≤ (t345.length : Int) then ((aa_.f k3 (t345.take ((x6_1.length : Int) : Int).toNat) x6_1).bind fun t367 => (if t367 = true then ((ha_.f k3).bind fun t368 => (some t368)) else (some false))) else (none)) else (none)) else (some false))) else (some false)) = some r := H
          have A55 := ba_.mk A550
          clear A550
          by_cases c56 : t361 = true
          ·subst c56
           have H1 : ((ee_.f t353).bind fun t362 => (if t362 = true then (if 0 ≤ (x6_1.length : Int) then (if (x6_1.length : Int) ≤ (t345.length : Int) then ((aa_.f k3 (t345.take ((x6_1.length : Int) : Int).toNat) x6_1).bind fun t367 => (if t367 = true then ((ha_.f k3).bind fun t368 => (some t368)) else (some false))) else (none)) else (none)) else (some false))) = some r := by rw [if_pos rfl] at H; exact H
           clear H
           have H := H1
           clear H1
           replace H := Option.bind_eq_some_iff.mp H
           obtain ⟨t362, A570, H⟩ := H
           replace H : (if t362 = true then (if 0 ≤ (x6_1.length : Int) then (if (x6_1.length : Int) ≤ (t345.length : Int) then ((aa_.f k3 (t345.take ((x6_1.length : Int) : Int).toNat) x6_1).bind fun t367 => (if t367 = true then ((ha_.f k3).bind fun t368 => (some t368)) else (some false))) else (none)) else (none)) else (some false)) = some r := H
           have A57 := ba_.mk A570
           clear A570
           by_cases c58 : t362 = true
           ·subst c58
            have H1 : (if 0 ≤ (x6_1.length : Int) then (if (x6_1.length : Int) ≤ (t345.length : Int) then ((aa_.f k3 (t345.take ((x6_1.length : Int) : Int).toNat) x6_1).bind fun t367 => (if t367 = true then ((ha_.f k3).bind fun t368 => (some t368)) else (some false))) else (none)) else (none)) = some r := by rw [if_pos rfl] at H; exact H
            clear H
            have H := H1
            clear H1
            by_cases c59 : 0 ≤ (x6_1.length : Int)
            ·rw [if_pos c59] at H
             have c59b0 := eq_true c59
             have c59b1 : decide (0 ≤ (x6_1.length : Int)) = true := decide_eq_true c59
             clear c59
             by_cases c60 : (x6_1.length : Int) ≤ (t345.length : Int)
             ·rw [if_pos c60] at H
              have c60b0 := eq_true c60
              have c60b1 : decide ((x6_1.length : Int) ≤ (t345.length : Int)) = true := decide_eq_true c60
              clear c60
              obtain ⟨y363, hy363⟩ : ∃ y_ : List Int, y_ = (t345.take ((x6_1.length : Int) : Int).toNat) := ⟨_, rfl⟩
              replace H : ((aa_.f k3 y363 x6_1).bind fun t367 => (if t367 = true then ((ha_.f k3).bind fun t368 => (some t368)) else (some false))) = some r := by first | (rw [hy363]; with_reducible exact H) | (have H2_ := (Option.bind_some _ _).symm.trans H; rw [hy363]; with_reducible exact H2_) | (have H2_ := (Option.bind_some _ _).symm.trans H; with_reducible exact H2_) | with_reducible exact H | (rw [hy363]; exact H) | exact H
              have Ny363 := ba_.mk hy363
              clear hy363
              replace H := Option.bind_eq_some_iff.mp H
              obtain ⟨t367, A610, H⟩ := H
              replace H : (if t367 = true then ((ha_.f k3).bind fun t368 => (some t368)) else (some false)) = some r := H
              have A61 := ba_.mk A610
              clear A610
              by_cases c62 : t367 = true
              ·subst c62
               have H1 : ((ha_.f k3).bind fun t368 => (some t368)) = some r := by rw [if_pos rfl] at H; exact H
               clear H
               have H := H1
               clear H1
               replace H := Option.bind_eq_some_iff.mp H
               obtain ⟨t368, A630, H⟩ := H
               replace H : (some t368) = some r := H
               have A63 := ba_.mk A630
               clear A630
               obtain rfl := Option.some.inj H
               obtain ⟨Ao64, co64, eo64⟩ := Kd.fc_ HO_13.out
               subst eo64
               go_wp2_with (first | (go_at_call 32; (with_reducible refine (ee_.calls _ _ t345 true _ ?side1 ?side2 A55.out).mono ?_); (case side1 => repeat (first | exact (Kd.ta_ HO_13.out).2.2 | (with_reducible refine Kd.yb_ ?_ _) | (with_reducible refine Kd.zb_ ?_ _) | (with_reducible refine Kd.jc_ ?_))); (case side2 => exact (Kd.ta_ HO_13.out).2.1); rintro e w65 ⟨rfl, hb⟩; have n0_ := ba_.mk (Kd.cd_ (by (with_reducible repeat (first | apply Kd.la_ | apply Kd.ka_ | apply Kd.ma_)); exact HO_6.out) hb); have n1_ := ba_.mk (Kd.cd_ (by (with_reducible repeat (first | apply Kd.la_ | apply Kd.ka_ | apply Kd.ma_)); exact HO_13.out) hb); have n2_ := ba_.mk (Kd.cd_ (by (with_reducible repeat (first | apply Kd.la_ | apply Kd.ka_ | apply Kd.ma_)); exact HO_15.out) hb); have n3_ := ba_.mk (Kd.cd_ (by (with_reducible repeat (first | apply Kd.la_ | apply Kd.ka_ | apply Kd.ma_)); exact HO_17.out) hb); have n4_ := ba_.mk (gb_ (by repeat (first | (with_reducible first | exact HB.out | apply fa_ | apply ca_ | apply ga_) | exact HB.out)) hb); clear HO_6; clear HO_13; clear HO_15; clear HO_17; clear HB; have HO_6 := n0_; have HO_13 := n1_; have HO_15 := n2_; have HO_17 := n3_; have HB := n4_; clear n0_ n1_ n2_ n3_ n4_; (try clear hb); (try clear hb2); (try clear hk); (try clear hi); obtain ⟨Ao66, co66, eo66⟩ := Kd.fc_ HO_17.out; subst eo66) | (go_at_call 32; (with_reducible refine (ee_.calls _ _ t353 true _ ?side1 ?side2 A57.out).mono ?_); (case side1 => repeat (first | exact (Kd.ta_ HO_17.out).2.2 | (with_reducible refine Kd.yb_ ?_ _) | (with_reducible refine Kd.zb_ ?_ _) | (with_reducible refine Kd.jc_ ?_))); (case side2 => exact (Kd.ta_ HO_17.out).2.1); rintro e w67 ⟨rfl, hb⟩; have n0_ := ba_.mk (Kd.cd_ (by (with_reducible repeat (first | apply Kd.la_ | apply Kd.ka_ | apply Kd.ma_)); exact HO_6.out) hb); have n1_ := ba_.mk (Kd.cd_ (by (with_reducible repeat (first | apply Kd.la_ | apply Kd.ka_ | apply Kd.ma_)); exact HO_13.out) hb); have n2_ := ba_.mk (Kd.cd_ (by (with_reducible repeat (first | apply Kd.la_ | apply Kd.ka_ | apply Kd.ma_)); exact HO_15.out) hb); have n3_ := ba_.mk (Kd.cd_ (by (with_reducible repeat (first | apply Kd.la_ | apply Kd.ka_ | apply Kd.ma_)); exact HO_17.out) hb); have n4_ := ba_.mk (gb_ (by repeat (first | (with_reducible first | exact HB.out | apply fa_ | apply ca_ | apply ga_) | exact HB.out)) hb); clear HO_6; clear HO_13; clear HO_15; clear HO_17; clear HB; have HO_6 := n0_; have HO_13 := n1_; have HO_15 := n2_; have HO_17 := n3_; have HB := n4_; clear n0_ n1_ n2_ n3_ n4_; (try clear hb); (try clear hb2); (try clear hk); (try clear hi); have q68 : ((x6_1.length : Int) : Int) ≤ ((t345.length : Int) : Int) := of_decide_eq_true (by first | (with_reducible assumption) | assumption); obtain ⟨i068, hi068, _, hsz68, _⟩ := info_parts te_; have hroom68 : t345.length ≤ co64 := (Kd.ta_ HO_13.out).2.1; have hC68 : Kd.C (Kd.int .i64) _ Ao64 t345.length t345 := (Kd.ta_ HO_13.out).2.2; have hcut68 := pm_ (P := Try.prog) 27 3 .i64 Try.underlying27 hi068 Ao64 t345.length co64 (x6_1.length : Int) (of_decide_eq_true (by first | (with_reducible assumption) | assumption)) q68 hroom68; have hr68 := Kd.ei_ (m := ((x6_1.length : Int) : Int).toNat) hC68 (by omega); have hy68 : y363.length = ((x6_1.length : Int) : Int).toNat := (by rw [Ny363.out, List.length_take]; omega); rw [← Ny363.out] at hr68; rw [← hy68] at hcut68; have HR366 := ba_.mk hr68; have HC366 := ba_.mk (show y363.length ≤ co64 from by omega); clear hr68 hC68 hroom68 hi068 hsz68; have KY68 := ba_.mk hy68; clear hy68; have KL68 := ba_.mk (show ((x6_1.length : Int) : Int).toNat ≤ t345.length from by omega); replace q68 := eq_true q68) | (go_at_call 29; (with_reducible refine (aa_.calls k3 _ _ y363 _ _ x6_1 true _ ?side1 ?side2 ?side3 ?side4 A61.out).mono ?_); (case side1 => repeat (first | exact (by repeat (first | (with_reducible exact HR366.out) | (with_reducible refine Kd.yb_ ?_ _) | (with_reducible refine Kd.zb_ ?_ _) | (with_reducible refine Kd.jc_ ?_) | exact HR366.out)) | (with_reducible refine Kd.yb_ ?_ _) | (with_reducible refine Kd.zb_ ?_ _) | (with_reducible refine Kd.jc_ ?_))); (case side2 => exact HC366.out); (case side3 => repeat (first | exact (Kd.ta_ HO_6.out).2.2 | (with_reducible refine Kd.yb_ ?_ _) | (with_reducible refine Kd.zb_ ?_ _) | (with_reducible refine Kd.jc_ ?_))); (case side4 => exact (Kd.ta_ HO_6.out).2.1); rintro e w' ⟨rfl, ⟨nd, rfl⟩⟩; (try first | exact ⟨rfl, _, World.drewN_drewN _ _ _⟩ | exact ⟨rfl, _, Eq.trans (World.drewN_drewN _ _ _) (congrArg (World.drewN _) (Nat.add_assoc _ _ _))⟩)) | (go_at_call 19; (with_reducible refine (ha_.calls k3  t368 _ A63.out HRT.out).mono ?_); rintro e w69 ⟨rfl, hb⟩; have n0_ := ba_.mk (Kd.cd_ (by (with_reducible repeat (first | apply Kd.la_ | apply Kd.ka_ | apply Kd.ma_)); exact HO_6.out) hb); have n1_ := ba_.mk (Kd.cd_ (by (with_reducible repeat (first | apply Kd.la_ | apply Kd.ka_ | apply Kd.ma_)); exact HO_13.out) hb); have n2_ := ba_.mk (Kd.cd_ (by (with_reducible repeat (first | apply Kd.la_ | apply Kd.ka_ | apply Kd.ma_)); exact HO_15.out) hb); have n3_ := ba_.mk (Kd.cd_ (by (with_reducible repeat (first | apply Kd.la_ | apply Kd.ka_ | apply Kd.ma_)); exact HO_17.out) hb); have n4_ := ba_.mk (Kd.ie_ (by repeat (first | (with_reducible exact HR366.out) | (with_reducible refine Kd.yb_ ?_ _) | (with_reducible refine Kd.zb_ ?_ _) | (with_reducible refine Kd.jc_ ?_) | exact HR366.out)) hb); have n5_ := ba_.mk (gb_ (by repeat (first | (with_reducible first | exact HB.out | apply fa_ | apply ca_ | apply ga_) | exact HB.out)) hb); clear HO_6; clear HO_13; clear HO_15; clear HO_17; clear HR366; clear HB; have HO_6 := n0_; have HO_13 := n1_; have HO_15 := n2_; have HO_17 := n3_; have HR366 := n4_; have HB := n5_; clear n0_ n1_ n2_ n3_ n4_ n5_; (try clear hb); (try clear hb2); (try clear hk); (try clear hi)))
               repeat (go_quiet (first | (go_at_call 32; (with_reducible refine (ee_.calls _ _ t345 true _ ?side1 ?side2 A55.out).mono ?_); (case side1 => repeat (first | exact (Kd.ta_ HO_13.out).2.2 | (with_reducible refine Kd.yb_ ?_ _) | (with_reducible refine Kd.zb_ ?_ _) | (with_reducible refine Kd.jc_ ?_))); (case side2 => exact (Kd.ta_ HO_13.out).2.1); rintro e w65 ⟨rfl, hb⟩; have n0_ := ba_.mk (Kd.cd_ (by (with_reducible repeat (first | apply Kd.la_ | apply Kd.ka_ | apply Kd.ma_)); exact HO_6.out) hb); have n1_ := ba_.mk (Kd.cd_ (by (with_reducible repeat (first | apply Kd.la_ | apply Kd.ka_ | apply Kd.ma_)); exact HO_13.out) hb); have n2_ := ba_.mk (Kd.cd_ (by (with_reducible repeat (first | apply Kd.la_ | apply Kd.ka_ | apply Kd.ma_)); exact HO_15.out) hb); have n3_ := ba_.mk (Kd.cd_ (by (with_reducible repeat (first | apply Kd.la_ | apply Kd.ka_ | apply Kd.ma_)); exact HO_17.out) hb); have n4_ := ba_.mk (gb_ (by repeat (first | (with_reducible first | exact HB.out | apply fa_ | apply ca_ | apply ga_) | exact HB.out)) hb); clear HO_6; clear HO_13; clear HO_15; clear HO_17; clear HB; have HO_6 := n0_; have HO_13 := n1_; have HO_15 := n2_; have HO_17 := n3_; have HB := n4_; clear n0_ n1_ n2_ n3_ n4_; (try clear hb); (try clear hb2); (try clear hk); (try clear hi); obtain ⟨Ao66, co66, eo66⟩ := Kd.fc_ HO_17.out; subst eo66) | (go_at_call 32; (with_reducible refine (ee_.calls _ _ t353 true _ ?side1 ?side2 A57.out).mono ?_); (case side1 => repeat (first | exact (Kd.ta_ HO_17.out).2.2 | (with_reducible refine Kd.yb_ ?_ _) | (with_reducible refine Kd.zb_ ?_ _) | (with_reducible refine Kd.jc_ ?_))); (case side2 => exact (Kd.ta_ HO_17.out).2.1); rintro e w67 ⟨rfl, hb⟩; have n0_ := ba_.mk (Kd.cd_ (by (with_reducible repeat (first | apply Kd.la_ | apply Kd.ka_ | apply Kd.ma_)); exact HO_6.out) hb); have n1_ := ba_.mk (Kd.cd_ (by (with_reducible repeat (first | apply Kd.la_ | apply Kd.ka_ | apply Kd.ma_)); exact HO_13.out) hb); have n2_ := ba_.mk (Kd.cd_ (by (with_reducible repeat (first | apply Kd.la_ | apply Kd.ka_ | apply Kd.ma_)); exact HO_15.out) hb); have n3_ := ba_.mk (Kd.cd_ (by (with_reducible repeat (first | apply Kd.la_ | apply Kd.ka_ | apply Kd.ma_)); exact HO_17.out) hb); have n4_ := ba_.mk (gb_ (by repeat (first | (with_reducible first | exact HB.out | apply fa_ | apply ca_ | apply ga_) | exact HB.out)) hb); clear HO_6; clear HO_13; clear HO_15; clear HO_17; clear HB; have HO_6 := n0_; have HO_13 := n1_; have HO_15 := n2_; have HO_17 := n3_; have HB := n4_; clear n0_ n1_ n2_ n3_ n4_; (try clear hb); (try clear hb2); (try clear hk); (try clear hi); have q68 : ((x6_1.length : Int) : Int) ≤ ((t345.length : Int) : Int) := of_decide_eq_true (by first | (with_reducible assumption) | assumption); obtain ⟨i068, hi068, _, hsz68, _⟩ := info_parts te_; have hroom68 : t345.length ≤ co64 := (Kd.ta_ HO_13.out).2.1; have hC68 : Kd.C (Kd.int .i64) _ Ao64 t345.length t345 := (Kd.ta_ HO_13.out).2.2; have hcut68 := pm_ (P := Try.prog) 27 3 .i64 Try.underlying27 hi068 Ao64 t345.length co64 (x6_1.length : Int) (of_decide_eq_true (by first | (with_reducible assumption) | assumption)) q68 hroom68; have hr68 := Kd.ei_ (m := ((x6_1.length : Int) : Int).toNat) hC68 (by omega); have hy68 : y363.length = ((x6_1.length : Int) : Int).toNat := (by rw [Ny363.out, List.length_take]; omega); rw [← Ny363.out] at hr68; rw [← hy68] at hcut68; have HR366 := ba_.mk hr68; have HC366 := ba_.mk (show y363.length ≤ co64 from by omega); clear hr68 hC68 hroom68 hi068 hsz68; have KY68 := ba_.mk hy68; clear hy68; have KL68 := ba_.mk (show ((x6_1.length : Int) : Int).toNat ≤ t345.length from by omega); replace q68 := eq_true q68) | (go_at_call 29; (with_reducible refine (aa_.calls k3 _ _ y363 _ _ x6_1 true _ ?side1 ?side2 ?side3 ?side4 A61.out).mono ?_); (case side1 => repeat (first | exact (by repeat (first | (with_reducible exact HR366.out) | (with_reducible refine Kd.yb_ ?_ _) | (with_reducible refine Kd.zb_ ?_ _) | (with_reducible refine Kd.jc_ ?_) | exact HR366.out)) | (with_reducible refine Kd.yb_ ?_ _) | (with_reducible refine Kd.zb_ ?_ _) | (with_reducible refine Kd.jc_ ?_))); (case side2 => exact HC366.out); (case side3 => repeat (first | exact (Kd.ta_ HO_6.out).2.2 | (with_reducible refine Kd.yb_ ?_ _) | (with_reducible refine Kd.zb_ ?_ _) | (with_reducible refine Kd.jc_ ?_))); (case side4 => exact (Kd.ta_ HO_6.out).2.1); rintro e w' ⟨rfl, ⟨nd, rfl⟩⟩; (try first | exact ⟨rfl, _, World.drewN_drewN _ _ _⟩ | exact ⟨rfl, _, Eq.trans (World.drewN_drewN _ _ _) (congrArg (World.drewN _) (Nat.add_assoc _ _ _))⟩)) | (go_at_call 19; (with_reducible refine (ha_.calls k3  t368 _ A63.out HRT.out).mono ?_); rintro e w69 ⟨rfl, hb⟩; have n0_ := ba_.mk (Kd.cd_ (by (with_reducible repeat (first | apply Kd.la_ | apply Kd.ka_ | apply Kd.ma_)); exact HO_6.out) hb); have n1_ := ba_.mk (Kd.cd_ (by (with_reducible repeat (first | apply Kd.la_ | apply Kd.ka_ | apply Kd.ma_)); exact HO_13.out) hb); have n2_ := ba_.mk (Kd.cd_ (by (with_reducible repeat (first | apply Kd.la_ | apply Kd.ka_ | apply Kd.ma_)); exact HO_15.out) hb); have n3_ := ba_.mk (Kd.cd_ (by (with_reducible repeat (first | apply Kd.la_ | apply Kd.ka_ | apply Kd.ma_)); exact HO_17.out) hb); have n4_ := ba_.mk (Kd.ie_ (by repeat (first | (with_reducible exact HR366.out) | (with_reducible refine Kd.yb_ ?_ _) | (with_reducible refine Kd.zb_ ?_ _) | (with_reducible refine Kd.jc_ ?_) | exact HR366.out)) hb); have n5_ := ba_.mk (gb_ (by repeat (first | (with_reducible first | exact HB.out | apply fa_ | apply ca_ | apply ga_) | exact HB.out)) hb); clear HO_6; clear HO_13; clear HO_15; clear HO_17; clear HR366; clear HB; have HO_6 := n0_; have HO_13 := n1_; have HO_15 := n2_; have HO_17 := n3_; have HR366 := n4_; have HB := n5_; clear n0_ n1_ n2_ n3_ n4_ n5_; (try clear hb); (try clear hb2); (try clear hk); (try clear hi))); try go_wp2_with (first | (go_at_call 32; (with_reducible refine (ee_.calls _ _ t345 true _ ?side1 ?side2 A55.out).mono ?_); (case side1 => repeat (first | exact (Kd.ta_ HO_13.out).2.2 | (with_reducible refine Kd.yb_ ?_ _) | (with_reducible refine Kd.zb_ ?_ _) | (with_reducible refine Kd.jc_ ?_))); (case side2 => exact (Kd.ta_ HO_13.out).2.1); rintro e w65 ⟨rfl, hb⟩; have n0_ := ba_.mk (Kd.cd_ (by (with_reducible repeat (first | apply Kd.la_ | apply Kd.ka_ | apply Kd.ma_)); exact HO_6.out) hb); have n1_ := ba_.mk (Kd.cd_ (by (with_reducible repeat (first | apply Kd.la_ | apply Kd.ka_ | apply Kd.ma_)); exact HO_13.out) hb); have n2_ := ba_.mk (Kd.cd_ (by (with_reducible repeat (first | apply Kd.la_ | apply Kd.ka_ | apply Kd.ma_)); exact HO_15.out) hb); have n3_ := ba_.mk (Kd.cd_ (by (with_reducible repeat (first | apply Kd.la_ | apply Kd.ka_ | apply Kd.ma_)); exact HO_17.out) hb); have n4_ := ba_.mk (gb_ (by repeat (first | (with_reducible first | exact HB.out | apply fa_ | apply ca_ | apply ga_) | exact HB.out)) hb); clear HO_6; clear HO_13; clear HO_15; clear HO_17; clear HB; have HO_6 := n0_; have HO_13 := n1_; have HO_15 := n2_; have HO_17 := n3_; have HB := n4_; clear n0_ n1_ n2_ n3_ n4_; (try clear hb); (try clear hb2); (try clear hk); (try clear hi); obtain ⟨Ao66, co66, eo66⟩ := Kd.fc_ HO_17.out; subst eo66) | (go_at_call 32; (with_reducible refine (ee_.calls _ _ t353 true _ ?side1 ?side2 A57.out).mono ?_); (case side1 => repeat (first | exact (Kd.ta_ HO_17.out).2.2 | (with_reducible refine Kd.yb_ ?_ _) | (with_reducible refine Kd.zb_ ?_ _) | (with_reducible refine Kd.jc_ ?_))); (case side2 => exact (Kd.ta_ HO_17.out).2.1); rintro e w67 ⟨rfl, hb⟩; have n0_ := ba_.mk (Kd.cd_ (by (with_reducible repeat (first | apply Kd.la_ | apply Kd.ka_ | apply Kd.ma_)); exact HO_6.out) hb); have n1_ := ba_.mk (Kd.cd_ (by (with_reducible repeat (first | apply Kd.la_ | apply Kd.ka_ | apply Kd.ma_)); exact HO_13.out) hb); have n2_ := ba_.mk (Kd.cd_ (by (with_reducible repeat (first | apply Kd.la_ | apply Kd.ka_ | apply Kd.ma_)); exact HO_15.out) hb); have n3_ := ba_.mk (Kd.cd_ (by (with_reducible repeat (first | apply Kd.la_ | apply Kd.ka_ | apply Kd.ma_)); exact HO_17.out) hb); have n4_ := ba_.mk (gb_ (by repeat (first | (with_reducible first | exact HB.out | apply fa_ | apply ca_ | apply ga_) | exact HB.out)) hb); clear HO_6; clear HO_13; clear HO_15; clear HO_17; clear HB; have HO_6 := n0_; have HO_13 := n1_; have HO_15 := n2_; have HO_17 := n3_; have HB := n4_; clear n0_ n1_ n2_ n3_ n4_; (try clear hb); (try clear hb2); (try clear hk); (try clear hi); have q68 : ((x6_1.length : Int) : Int) ≤ ((t345.length : Int) : Int) := of_decide_eq_true (by first | (with_reducible assumption) | assumption); obtain ⟨i068, hi068, _, hsz68, _⟩ := info_parts te_; have hroom68 : t345.length ≤ co64 := (Kd.ta_ HO_13.out).2.1; have hC68 : Kd.C (Kd.int .i64) _ Ao64 t345.length t345 := (Kd.ta_ HO_13.out).2.2; have hcut68 := pm_ (P := Try.prog) 27 3 .i64 Try.underlying27 hi068 Ao64 t345.length co64 (x6_1.length : Int) (of_decide_eq_true (by first | (with_reducible assumption) | assumption)) q68 hroom68; have hr68 := Kd.ei_ (m := ((x6_1.length : Int) : Int).toNat) hC68 (by omega); have hy68 : y363.length = ((x6_1.length : Int) : Int).toNat := (by rw [Ny363.out, List.length_take]; omega); rw [← Ny363.out] at hr68; rw [← hy68] at hcut68; have HR366 := ba_.mk hr68; have HC366 := ba_.mk (show y363.length ≤ co64 from by omega); clear hr68 hC68 hroom68 hi068 hsz68; have KY68 := ba_.mk hy68; clear hy68; have KL68 := ba_.mk (show ((x6_1.length : Int) : Int).toNat ≤ t345.length from by omega); replace q68 := eq_true q68) | (go_at_call 29; (with_reducible refine (aa_.calls k3 _ _ y363 _ _ x6_1 true _ ?side1 ?side2 ?side3 ?side4 A61.out).mono ?_); (case side1 => repeat (first | exact (by repeat (first | (with_reducible exact HR366.out) | (with_reducible refine Kd.yb_ ?_ _) | (with_reducible refine Kd.zb_ ?_ _) | (with_reducible refine Kd.jc_ ?_) | exact HR366.out)) | (with_reducible refine Kd.yb_ ?_ _) | (with_reducible refine Kd.zb_ ?_ _) | (with_reducible refine Kd.jc_ ?_))); (case side2 => exact HC366.out); (case side3 => repeat (first | exact (Kd.ta_ HO_6.out).2.2 | (with_reducible refine Kd.yb_ ?_ _) | (with_reducible refine Kd.zb_ ?_ _) | (with_reducible refine Kd.jc_ ?_))); (case side4 => exact (Kd.ta_ HO_6.out).2.1); rintro e w' ⟨rfl, ⟨nd, rfl⟩⟩; (try first | exact ⟨rfl, _, World.drewN_drewN _ _ _⟩ | exact ⟨rfl, _, Eq.trans (World.drewN_drewN _ _ _) (congrArg (World.drewN _) (Nat.add_assoc _ _ _))⟩)) | (go_at_call 19; (with_reducible refine (ha_.calls k3  t368 _ A63.out HRT.out).mono ?_); rintro e w69 ⟨rfl, hb⟩; have n0_ := ba_.mk (Kd.cd_ (by (with_reducible repeat (first | apply Kd.la_ | apply Kd.ka_ | apply Kd.ma_)); exact HO_6.out) hb); have n1_ := ba_.mk (Kd.cd_ (by (with_reducible repeat (first | apply Kd.la_ | apply Kd.ka_ | apply Kd.ma_)); exact HO_13.out) hb); have n2_ := ba_.mk (Kd.cd_ (by (with_reducible repeat (first | apply Kd.la_ | apply Kd.ka_ | apply Kd.ma_)); exact HO_15.out) hb); have n3_ := ba_.mk (Kd.cd_ (by (with_reducible repeat (first | apply Kd.la_ | apply Kd.ka_ | apply Kd.ma_)); exact HO_17.out) hb); have n4_ := ba_.mk (Kd.ie_ (by repeat (first | (with_reducible exact HR366.out) | (with_reducible refine Kd.yb_ ?_ _) | (with_reducible refine Kd.zb_ ?_ _) | (with_reducible refine Kd.jc_ ?_) | exact HR366.out)) hb); have n5_ := ba_.mk (gb_ (by repeat (first | (with_reducible first | exact HB.out | apply fa_ | apply ca_ | apply ga_) | exact HB.out)) hb); clear HO_6; clear HO_13; clear HO_15; clear HO_17; clear HR366; clear HB; have HO_6 := n0_; have HO_13 := n1_; have HO_15 := n2_; have HO_17 := n3_; have HR366 := n4_; have HB := n5_; clear n0_ n1_ n2_ n3_ n4_ n5_; (try clear hb); (try clear hb2); (try clear hk); (try clear hi))))
               go_ret
               exact ⟨by first | rfl | (simp [bb_, cb_] <;> rfl) | (simp [*, bb_, cb_] <;> rfl), by repeat (first | (with_reducible first | exact HB.out | apply fa_ | apply ca_ | apply ga_) | exact HB.out)⟩
              ·replace c62 := Bool.eq_false_iff.mpr c62
               subst c62
               have H1 : (some false) = some r := by rw [if_neg (show ¬ (false = true) by decide)] at H; exact H
               clear H
               have H := H1
               clear H1
               exact absurd ((Option.some.inj H).trans HRT.out) (by decide)
             ·rw [if_neg c60] at H
              exact absurd H (by simp)
            ·rw [if_neg c59] at H
             exact absurd H (by simp)
           ·replace c58 := Bool.eq_false_iff.mpr c58
            subst c58
            have H1 : (some false) = some r := by rw [if_neg (show ¬ (false = true) by decide)] at H; exact H
            clear H
            have H := H1
            clear H1
            exact absurd ((Option.some.inj H).trans HRT.out) (by decide)
          ·replace c56 := Bool.eq_false_iff.mpr c56
           subst c56
           have H1 : (some false) = some r := by rw [if_neg (show ¬ (false = true) by decide)] at H; exact H
           clear H
           have H := H1
           clear H1
           exact absurd ((Option.some.inj H).trans HRT.out) (by decide)
def pa_.Pure : Prop := ∀ (l0 : List Int) (a1 : Int), l0.length ≤ maxLen → l0.length * 8 ≤ 140737488351232 → (∀ x ∈ l0, (Lit.int .i64 x).wf = true) → (Lit.int .u8 a1).wf = true → ∃ k, pa_.f k l0 a1 = some true
theorem pa_.walk (P : pa_.Pure) (a0 : Option Addr) (len0 cap0 : Nat) (z0 : List Int) (a1 : Int) (w : World) (w0 : (a0 = none ∧ len0 = 0 ∧ cap0 = 0 ∧ z0 = []) ∨ ∃ x, a0 = some x ∧ len0 ≤ cap0 ∧ cap0 ≤ maxLen ∧ z0.length = cap0 ∧ (∀ i, i < z0.length → w.cell? (x.add i) = some (.int .i64 (z0.getD i 0))) ∧ ∀ n ∈ z0, (Lit.int .i64 n).wf = true) (y0 : len0 * 8 ≤ 140737488351232) (w1 : (Lit.int .u8 a1).wf = true) :
  Calls Try.prog 11 #[.slice a0 len0 cap0, .int .u8 a1] w fun e w' => e = .returned (.bool true) ∧ Below w.heap.size w w' := by
 obtain ⟨l0, rfl, hr0, hm0, hw0, hc0⟩ := le_.vk_ w0
 obtain ⟨k, h⟩ := P l0 a1 hm0 y0 hw0 w1
 refine (pa_.calls k _ _ l0 a1 true w (Kd.ue_ (d := (0 : Int)) (h1 := fun _ => rfl) hr0) hc0 h rfl).mono ?_
 rintro e w' ⟨rfl, hd⟩
 exact ⟨rfl, hd⟩
end Go.Proofs.Ytpkhgapifnjbeaa.Y
end
section
namespace Go.Proofs.Ytpkhgapifnjbeaa.Pure
set_option linter.unusedVariables false
set_option linter.unusedSimpArgs false
open Go.RowKit Go.Proofs.Ytpkhgapifnjbeaa.Y Go.Proofs.YtpkhgapifnjbeaaW.PrintWords Go.Proofs.YtpkhgapifnjbeaaW.PrintLast Go.Proofs.YtpkhgapifnjbeaaW.PrintMore Go.Proofs.Ytpkhgapifnjbeaa.G Go.Proofs.Ytpkhgapifnjbeaa.Rs
theorem tg_ (a b : List Int) (hl : a.length = b.length) (h : a.length ≤ 1000) : ∀ (d i k : Nat), i + d = a.length → d < k → (∀ j, j < i → a.getD j 0 = b.getD j 0) → aa_.l0 k a b (i : Int) = some (decide (a = b)) := by
 intro d
 induction d with
 | zero =>
  intro i k hi hk hz
  obtain ⟨k, rfl⟩ : ∃ m, k = m + 1 := ⟨k - 1, by omega⟩
  simp only [aa_.l0]
  rw [if_neg (by omega)]
  have : a = b := List.ext_getElem hl fun j h1 h2 => by
   have := hz j (by omega)
   rwa [List.getD_eq_getElem?_getD, List.getD_eq_getElem?_getD, List.getElem?_eq_getElem h1, List.getElem?_eq_getElem h2] at this
  rw [decide_eq_true this]
 | succ d ih =>
  intro i k hi hk hz
  obtain ⟨k, rfl⟩ : ∃ m, k = m + 1 := ⟨k - 1, by omega⟩
  have hs : wrap64 ((i : Int) + 1) = ((i + 1 : Nat) : Int) := by unfold wrap64; omega
  simp only [aa_.l0]
  rw [if_pos (by omega), if_pos (by omega), if_pos (by omega), zd_, zd_, hs]
  by_cases e : a.getD i 0 = b.getD i 0
  ·rw [if_pos e]
   refine ih (i + 1) k (by omega) (by omega) fun j hj => ?_
   rcases Nat.lt_or_ge j i with h | h
   ·exact hz j h
   ·rw [show j = i from by omega]; exact e
  ·rw [if_neg e, decide_eq_false (fun q => e (by rw [q]))]
theorem rg_ (a b : List Int) (h : a.length ≤ 1000) (k : Nat) (hk : 1001 ≤ k) : aa_.f k a b = some (decide (a = b)) := by
 unfold aa_.f
 by_cases hl : a.length = b.length
 ·rw [if_pos (by omega)]
  exact tg_ a b hl h a.length 0 k (by omega) (by omega) (fun j hj => by omega)
 ·rw [if_neg (by omega), decide_eq_false (fun q => hl (by rw [q]))]
theorem ze_ : oe_ [3, 1] = true := by decide +kernel
theorem ki_ : mulI 16 2 = 5 := by decide +kernel
theorem inv2 : invI 2 = 18 := by decide +kernel
theorem pg_ (k : Nat) (hk : 1001 ≤ k) : ha_.f k = some true := by
 have e1 : ge_.f [3, 1] = some (encC [3, 1], 0) := by
  unfold ge_.f encS
  rw [if_pos (by decide), if_pos ze_]
 have e2 : je_.f (encC [3, 1]) = some ([3, 1], 0, 0) := by
  unfold je_.f
  rw [wj_ ze_]
 have e3 : ee_.f (encC [3, 1]) = some true := by unfold ee_.f; rw [xe_ ze_]
 have e4 : (encC [3, 1]).length = 8 := cf_ ze_
 have e5 := rg_ [3, 1] [3, 1] (by decide) k hk
 unfold ha_.f
 rw [e1]
 simp only [Option.bind_some]
 rw [e2]
 simp only [Option.bind_some, ud_.f, nc_.f, ki_, inv2, e3, e4, e5]
 simp
end Go.Proofs.Ytpkhgapifnjbeaa.Pure
end
section
namespace Go.Proofs.Ytpkhgapifnjbeaa.Y
open Go.RowKit Go.Proofs.Ytpkhgapifnjbeaa.G Go.Proofs.Ytpkhgapifnjbeaa.Rs Go.Proofs.YtpkhgapifnjbeaaW.PrintWords Go.Proofs.YtpkhgapifnjbeaaW.PrintLast Go.Proofs.YtpkhgapifnjbeaaW.PrintMore
attribute [local go_sem] dd_ fd_ rd_ sd_ uc_ vc_ ed_ gd_
set_option linter.unusedVariables false
set_option linter.unusedSimpArgs false
end Go.Proofs.Ytpkhgapifnjbeaa.Y
end
section
namespace Go.Proofs.Ytpkhgapifnjbeaa.Pure
set_option linter.unusedVariables false
set_option linter.unusedSimpArgs false
open Go.RowKit Go.Proofs.Ytpkhgapifnjbeaa.Y Go.Proofs.YtpkhgapifnjbeaaW.PrintWords Go.Proofs.YtpkhgapifnjbeaaW.PrintLast Go.Proofs.YtpkhgapifnjbeaaW.PrintMore Go.Proofs.Ytpkhgapifnjbeaa.G Go.Proofs.Ytpkhgapifnjbeaa.Rs
theorem wg_ (a b : Int) (h1 : 1 ≤ b) : (if Int.tmod a b < 0 then Int.tmod a b + b else Int.tmod a b) = a % b ∧ -b < Int.tmod a b := by
 have h := Int.emod_nonneg a (b := b) (by omega)
 have h' := Int.emod_lt_of_pos a (show 0 < b by omega)
 have e := @Int.tmod_eq_emod a b
 by_cases c : 0 ≤ a ∨ b ∣ a
 ·rw [if_pos c] at e
  rw [if_neg (by omega)]; omega
 ·rw [if_neg c] at e
  have : a % b ≠ 0 := fun q => c (.inr (Int.dvd_of_emod_eq_zero q))
  rw [if_pos (by omega)]; omega
theorem wk_ (a b : Int) (h1 : 1 ≤ b) (h2 : b ≤ 1000000) : ab_.f a b = some (a % b) := by
 obtain ⟨e, h⟩ := wg_ a b h1
 unfold ab_.f
 rw [if_neg (by omega), if_neg (by omega)]
 by_cases c : Int.tmod a b < 0
 ·rw [if_pos c] at e
  rw [if_pos c, show wrap64 (Int.tmod a b + b) = Int.tmod a b + b from by unfold wrap64; omega, e]
 ·rw [if_neg c] at e
  rw [if_neg c, e]
def TA (p : Int) : Prop := 0 ≤ p ∧ p ≤ 600
theorem rn_ (l : List Int) : ∃ L, sb_.f l = some (L, 0) ∧ L.length ≤ 600 ∧ TA 0 := by
 unfold sb_.f
 by_cases h : (l.length : Int) > 600
 ·rw [if_pos h, if_pos (by omega)]
  exact ⟨_, rfl, by rw [List.length_take]; omega, by unfold TA; omega⟩
 ·rw [if_neg h]
  exact ⟨l, rfl, by omega, by unfold TA; omega⟩
theorem tn_ {L : List Int} (hL : L.length ≤ 600) {p : Int} (hp : TA p) : ∃ v q, lb_.f L p = some (v, q) ∧ TA q := by
 unfold TA at hp
 unfold lb_.f
 by_cases h : p ≥ (L.length : Int)
 ·rw [if_pos h]; exact ⟨_, _, rfl, hp⟩
 ·have e1 : wrap64 (p + 1) = p + 1 := by unfold wrap64; omega
  have e2 : wrap64 (p + 1 - 1) = p := by unfold wrap64; omega
  rw [if_neg h, e1, e2, if_pos (by omega), if_pos (by omega)]
  exact ⟨_, _, rfl, by unfold TA; omega⟩
theorem tf_ {L : List Int} (hL : L.length ≤ 600) {p : Int} (hp : TA p) (n : Int) (h1 : 1 ≤ n) (h2 : n ≤ 1000000) : ∃ v q, na_.f L p n = some (v, q) ∧ 0 ≤ v ∧ v < n ∧ TA q := by
 obtain ⟨v, q, e, hq⟩ := tn_ hL hp
 unfold na_.f
 rw [e]
 simp only [Option.bind_some]
 rw [wk_ v n h1 h2]
 exact ⟨_, _, rfl, Int.emod_nonneg _ (by omega), Int.emod_lt_of_pos _ (by omega), hq⟩
theorem wf_ {L : List Int} (hL : L.length ≤ 600) {p : Int} (hp : TA p) (a b : Int) (h0 : -1000 ≤ a) (h1 : a ≤ b) (h2 : b ≤ 100000) : ∃ v q, oa_.f L p a b = some (v, q) ∧ a ≤ v ∧ v ≤ b ∧ TA q := by
 have e1 : wrap64 (wrap64 (b - a) + 1) = b - a + 1 := by unfold wrap64; omega
 obtain ⟨v, q, e, v0, v1, hq⟩ := tf_ hL hp (b - a + 1) (by omega) (by omega)
 unfold oa_.f
 rw [e1, e]
 simp only [Option.bind_some]
 have e2 : wrap64 (a + v) = a + v := by unfold wrap64; omega
 rw [e2]
 exact ⟨_, _, rfl, by omega, by omega, hq⟩
end Go.Proofs.Ytpkhgapifnjbeaa.Pure
end
section
namespace Go.Proofs.Ytpkhgapifnjbeaa.Pure
set_option linter.unusedVariables false
set_option linter.unusedSimpArgs false
open Go.RowKit Go.Proofs.Ytpkhgapifnjbeaa.Y Go.Proofs.YtpkhgapifnjbeaaW.PrintWords Go.Proofs.YtpkhgapifnjbeaaW.PrintLast Go.Proofs.YtpkhgapifnjbeaaW.PrintMore Go.Proofs.Ytpkhgapifnjbeaa.G Go.Proofs.Ytpkhgapifnjbeaa.Rs
theorem yr_ {d : List Int} (h1 : 1 ≤ d.length) (h2 : d.length ≤ 9) (h : ∀ x ∈ d, isEl x = true) : oe_ d = true := by
 unfold oe_
 simp only [Bool.and_eq_true, decide_eq_true_eq, List.all_eq_true]
 exact ⟨⟨h1, h2⟩, h⟩
theorem gs_ {d : List Int} (h : oe_ d = true) : ge_.f d = some (encC d, 0) := by
 unfold ge_.f encS
 rw [if_pos (by have := (bf_ h).2.1; omega), if_pos h]
theorem mod32' (a : Int) (h : (Lit.int .u8 a).wf = true) : ∃ x : GF, wrap64 (Int.tmod a 32) = ofG x := by
 have h2 : 0 ≤ a ∧ a ≤ 255 := by
  have h1 : IntKind.u8.min ≤ a ∧ a ≤ IntKind.u8.max := by simpa [Lit.wf] using h
  rw [show IntKind.u8.min = 0 from by decide, show IntKind.u8.max = 255 from by decide] at h1
  exact h1
 have e := Int.tmod_eq_emod_of_nonneg (b := 32) h2.1
 have h3 : 0 ≤ a % 32 := Int.emod_nonneg _ (by decide)
 have h4 : a % 32 < 32 := Int.emod_lt_of_pos _ (by decide)
 refine ⟨toG (a % 32), ?_⟩
 rw [e, vh_ h3 h4]
 unfold wrap64; omega
def linI (m : GF) (x y : Int) : Int := ofG (toG x * m + toG y)
theorem lin_el (m : GF) (x y : Int) : isEl (linI m x y) = true := jg_ _
theorem iz_ {x y : Int} (m : GF) (hx : isEl x = true) (hy : isEl y = true) : Go.bits .xor .i64 (mulI x (ofG m)) y = linI m x y := by
 have h1 : mulI x (ofG m) = ofG (toG x * m) := by rw [pp_ hx (jg_ m), yf_]
 rw [h1]
 show xorI _ _ = _
 rw [ml_ (jg_ _) hy, yf_]; rfl
theorem yd1_ {a b c : List Int} (m : GF) (ha : oe_ a = true) (hb : oe_ b = true) (hc : oe_ c = true) (l1 : b.length = a.length) (l2 : c.length = a.length)
  (h : ∀ i, i < a.length → c.getD i 0 = linI m (a.getD i 0) (b.getD i 0)) (i : Nat) (hi : i < a.length + 6) : (encC c).getD i 0 = linI m ((encC a).getD i 0) ((encC b).getD i 0) := by
 have la := cf_ ha
 have lb := cf_ hb
 have lc := cf_ hc
 obtain ⟨r, hr⟩ : ∃ r, r = (List.range (encC a).length).map fun i => linI m ((encC a).getD i 0) ((encC b).getD i 0) := ⟨_, rfl⟩
 have lr : r.length = (encC a).length := by rw [hr]; simp
 have hri : ∀ i, i < (encC a).length → r.getD i 0 = linI m ((encC a).getD i 0) ((encC b).getD i 0) := fun i hi => by rw [hr]; exact dh_ _ _ _ hi
 have hrc : ve_ r = true := va1_ (xe_ ha) (xe_ hb) (by omega) lr m hri
 obtain ⟨_, e⟩ := sv_ hrc
 have ht : r.take (r.length - 6) = c := by
  apply List.ext_getElem
  ·rw [List.length_take]; omega
  ·intro j h1 h2
   have h3 := hri j (by omega)
   rw [ys_ ha j (by omega), ys_ hb j (by omega), ← h j (by omega)] at h3
   rw [List.getD_eq_getElem?_getD, List.getD_eq_getElem?_getD, List.getElem?_eq_getElem (by omega), List.getElem?_eq_getElem h2] at h3
   rw [List.getElem_take]
   simpa using h3
 rw [ht] at e
 rw [e]
 exact hri i (by omega)
theorem lin_l1 {a b c : List Int} (m : GF) (ha : oe_ a = true) (hb : oe_ b = true) (hc : oe_ c = true) (l1 : b.length = a.length) (l2 : c.length = a.length)
  (h : ∀ i, i < a.length → c.getD i 0 = linI m (a.getD i 0) (b.getD i 0)) : ∀ (d i k : Nat), i + d = a.length + 6 → d + 1005 < k → pa_.l1 k a (ofG m) (encC a) (encC b) (encC c) (i : Int) = some true := by
 have la := cf_ ha
 have lb := cf_ hb
 have lc := cf_ hc
 obtain ⟨_, a2, _⟩ := bf_ ha
 intro d
 induction d with
 | zero =>
  intro i k hi hk
  obtain ⟨k, rfl⟩ : ∃ m, k = m + 1 := ⟨k - 1, by omega⟩
  simp only [pa_.l1]
  rw [if_neg (by omega)]
  simp only [ee_.f, Option.bind_some]
  rw [xe_ ha, if_pos rfl, xe_ hc, if_pos rfl, if_pos (by omega), if_pos (by omega), Int.toNat_natCast, qm_ ha, rg_ a a (by omega) k (by omega), pg_ k (by omega)]
  simp
 | succ d ih =>
  intro i k hi hk
  obtain ⟨k, rfl⟩ : ∃ m, k = m + 1 := ⟨k - 1, by omega⟩
  have hi1 : wrap64 ((i : Int) + 1) = ((i + 1 : Nat) : Int) := by unfold wrap64; omega
  simp only [pa_.l1]
  rw [if_pos (by omega), if_pos (by omega), if_pos (by omega)]
  simp only [ud_.f, Option.bind_some]
  rw [if_pos (by omega), zd_, zd_, zd_, hi1, iz_ m (fh_ (xe_ ha) i (by omega)) (fh_ (xe_ hb) i (by omega)), if_pos (yd1_ m ha hb hc l1 l2 h i (by omega))]
  exact ih (i + 1) k (by omega) (by omega)
theorem iv_ (l : List Int) (v : Int) (i : Nat) : (l ++ [v]).getD i 0 = if i < l.length then l.getD i 0 else if i = l.length then v else 0 := by
 rw [List.getD_eq_getElem?_getD]
 by_cases h : i < l.length
 ·rw [if_pos h, List.getElem?_append_left h, ← List.getD_eq_getElem?_getD]
 ·rw [if_neg h, List.getElem?_append_right (by omega)]
  by_cases e : i = l.length
  ·rw [if_pos e, e, Nat.sub_self]; rfl
  ·rw [if_neg e]
   obtain ⟨j, hj⟩ : ∃ j, i - l.length = j + 1 := ⟨i - l.length - 1, by omega⟩
   rw [hj]; rfl
theorem jv_ {l : List Int} {v : Int} (h : ∀ x ∈ l, isEl x = true) (hv : isEl v = true) : ∀ x ∈ l ++ [v], isEl x = true := by
 intro x hx
 rcases List.mem_append.1 hx with h1 | h1
 ·exact h x h1
 ·rw [List.mem_singleton.1 h1]; exact hv
theorem lin_l0 {L : List Int} (m : GF) (hL : L.length ≤ 600) : ∀ (n k : Nat) (p : Int) (a b c : List Int), n + 1040 < k → TA p → 1 ≤ a.length + n → a.length + n ≤ 9 → b.length = a.length → c.length = a.length → (∀ x ∈ a, isEl x = true) → (∀ x ∈ b, isEl x = true) → (∀ x ∈ c, isEl x = true) →
  (∀ i, i < a.length → c.getD i 0 = linI m (a.getD i 0) (b.getD i 0)) → pa_.l0 k a b c (ofG m) (n : Int) L p = some true := by
 intro n
 induction n with
 | zero =>
  intro k p a b c hk hp h1 h9 l1 l2 ea eb ec h
  obtain ⟨k, rfl⟩ : ∃ m, k = m + 1 := ⟨k - 1, by omega⟩
  have ha : oe_ a = true := yr_ (by omega) (by omega) ea
  have hb : oe_ b = true := yr_ (by omega) (by omega) eb
  have hc : oe_ c = true := yr_ (by omega) (by omega) ec
  have la := cf_ ha
  have lb := cf_ hb
  have lc := cf_ hc
  simp only [pa_.l0]
  rw [if_neg (by omega), gs_ ha, gs_ hb, gs_ hc]
  simp only [Option.bind_some, if_true]
  have e1 : wrap64 ((a.length : Int) + 6) = ((a.length + 6 : Nat) : Int) := by unfold wrap64; omega
  rw [if_pos (by omega), if_pos (by omega), e1, show (((encC a).length : Int) != ((a.length + 6 : Nat) : Int)) = false from by rw [la]; simp]
  obtain ⟨k, rfl⟩ : ∃ m, k = m + 1 := ⟨k - 1, by omega⟩
  simp only [pa_.j1, Bool.false_eq_true, if_false]
  exact lin_l1 m ha hb hc l1 l2 h (a.length + 6) 0 k (by omega) (by omega)
 | succ n ih =>
  intro k p a b c hk hp h1 h9 l1 l2 ea eb ec h
  obtain ⟨k, rfl⟩ : ∃ m, k = m + 1 := ⟨k - 1, by omega⟩
  have hn1 : wrap64 (((n + 1 : Nat) : Int) - 1) = (n : Int) := by unfold wrap64; omega
  obtain ⟨u, q, e1, u0, u1, hq⟩ := tf_ hL hp 32 (by omega) (by omega)
  obtain ⟨v, q2, e2, v0, v1, hq2⟩ := tf_ hL hq 32 (by omega) (by omega)
  have hu := (xd_ u).2 ⟨u0, u1⟩
  have hv := (xd_ v).2 ⟨v0, v1⟩
  simp only [pa_.l0]
  rw [if_pos (by omega), e1]
  simp only [Option.bind_some]
  rw [e2]
  simp only [Option.bind_some, ud_.f]
  rw [if_pos (by omega), if_pos (by omega), if_pos (by omega), hn1, iz_ m hu hv]
  refine ih k q2 _ _ _ (by omega) hq2 ?_ ?_ ?_ ?_ (jv_ ea hu) (jv_ eb hv) (jv_ ec (lin_el _ _ _)) ?_
  ·rw [List.length_append, List.length_singleton]; omega
  ·rw [List.length_append, List.length_singleton]; omega
  ·rw [List.length_append, List.length_singleton, List.length_append, List.length_singleton]; omega
  ·rw [List.length_append, List.length_singleton, List.length_append, List.length_singleton]; omega
  ·intro i hi
   rw [List.length_append, List.length_singleton] at hi
   rw [iv_, iv_, iv_, l1, l2]
   by_cases hlt : i < a.length
   ·rw [if_pos hlt, if_pos hlt, if_pos hlt]; exact h i hlt
   ·rw [if_neg hlt, if_neg hlt, if_neg hlt, if_pos (by omega), if_pos (by omega), if_pos (by omega)]
theorem rs_ : pa_.Pure := by
 intro t a _ _ _ hby
 obtain ⟨K, hK⟩ : ∃ K : Nat, 1200 ≤ K := ⟨1200, Nat.le_refl _⟩
 refine ⟨K, ?_⟩
 obtain ⟨m, hm⟩ := mod32' a hby
 unfold pa_.f
 obtain ⟨L, e0, hL, hp⟩ := rn_ t
 rw [e0]
 simp only [Option.bind_some]
 obtain ⟨v, q, e1, v0, v1, hq⟩ := wf_ hL hp 1 9 (by omega) (by omega) (by omega)
 obtain ⟨n, rfl⟩ := Int.eq_ofNat_of_zero_le (show (0 : Int) ≤ v by omega)
 rw [e1]
 simp only [Option.bind_some]
 rw [hm]
 exact lin_l0 m hL n K q [] [] [] (by omega) hq (by simp; omega) (by simp; omega) rfl rfl (by simp) (by simp) (by simp) (fun i hi => by simp at hi)
end Go.Proofs.Ytpkhgapifnjbeaa.Pure
end
section
namespace Go.Proofs.Ytpkhgapifnjbeaa.rscodeLinear
open Go.ChangeShapes Go.WideShapes Go.ChangeAt Go.RowKit
open Go.ChangeMaps (open_string shut_string)
set_option linter.unusedVariables false
theorem own : ownKnob Try.prog.godebug = none := by kernel_rfl
theorem laidOut : laidOutB Try.prog = true := by kernel_rfl
def gk_ (k : IntKind) (w : World) (a : Option Addr) (len cap : Nat) (zs : List Int) : Prop :=
 (a = none ∧ len = 0 ∧ cap = 0 ∧ zs = []) ∨
 ∃ x, a = some x ∧ len ≤ cap ∧ cap ≤ maxLen ∧ zs.length = cap ∧ (∀ i, i < zs.length → w.cell? (x.add i) = some (.int k (zs.getD i 0))) ∧ ∀ n ∈ zs, (Lit.int k n).wf = true
set_option maxRecDepth 100000 in
theorem lifted (os : Os) (started : os.Started) (H : Type) (enc : TypeId × Value → H) :
  ReturnsInHanded {} Try.checked os 11 .any (Rows.rscodeLinearSpec.pre6 enc Try.prog Try.f11 Rows.rscodeLinearRow.domain false) (Rows.rscodeLinearSpec.post enc Try.prog Try.f11 false true false false) := by
 refine returnsInHanded_of_change_sized (C := Try.checked) own started (by kernel_rfl) Try.func11
  (ChangeSpec.witness6 (enc := enc) (C := Try.checked) false ⟨#[], #[.slice none 0 0, .int .u8 0], []⟩ 8 (by kernel_rfl) (by kernel_rfl) (by kernel_rfl) (by kernel_rfl)) ?_
 intro W base args ds gs before hval0 hW hcnd hsz0 _
 have hsz : (DataW.weightsEach Try.prog (Try.f11.params.toList ++ Rows.rscodeLinearSpec.plain.varTypes Try.prog) (ds ++ gs)).all (· ≤ reachBytes) = true := hsz0
 have hval : ∀ (j : Nat) t v, Try.f11.params[j]? = some t → args[j]? = some v → Value.okWide Try.prog W .any base t v := hval0
 have hW' := hW
 obtain ⟨p, q, hA0, hV, rfl, hfz, hnd⟩ := hW
 have hA : DataW.TrodAll enc Try.prog W 0 (fun _ => true) true Try.f11.params.toList args.toList ds p := hA0
 rw [Try.params11] at hA hval hsz
 obtain ⟨v0, vs0, d0, ds0, p0, q0, hargs, rfl, rfl, h0, r0⟩ := trodAll_cons hA
 obtain ⟨v1, vs1, d1, ds1, p1, q1, rfl, rfl, rfl, h1, r1⟩ := trodAll_cons r0
 obtain ⟨rfl, rfl, rfl⟩ := trodAll_nil r1
 obtain rfl : args = #[v0, v1] := by cases args; simp_all
 obtain ⟨rfl, rfl⟩ := trodVars_none hV
 obtain ⟨a0, len0, cap0, rfl⟩ := okWide_slice Try.underlying27 (hval 0 27 v0 rfl rfl)
 have k0 := h0
 have lt0 : ∀ x ∈ p0, x.block < W.heap.size := by obtain ⟨m, hm⟩ := k0; exact DataW.trod_lt m _ _ _ hm
 obtain ⟨z0, w0⟩ : ∃ zs, gk_ .i64 W a0 len0 cap0 zs := by
  obtain ⟨fuel, hf⟩ := h0
  rcases open_ints Try.underlying27 Try.underlying3 (by kernel_rfl) hf with ⟨hcs, _⟩ | ⟨x, l, c, zs, hcs, _, hl, hm, hz, _, hcell, hwz⟩
  ·simp [Value.cells] at hcs
   obtain ⟨rfl, rfl, rfl⟩ := hcs
   exact ⟨[], .inl ⟨rfl, rfl, rfl, rfl⟩⟩
  ·simp [Value.cells] at hcs
   obtain ⟨rfl, rfl, rfl⟩ := hcs
   exact ⟨zs, .inr ⟨_, rfl, hl, hm, by simpa using hz, hcell, hwz⟩⟩
 have y0 : len0 * 8 ≤ 140737488351232 := Go.Proofs.YtpkhgapifnjbeaaW.PrintWords.dg_ hsz (j := 0) (t := 27) rfl rfl Try.underlying27 Try.underlying3 (by kernel_rfl) (by kernel_rfl) h0
 obtain ⟨a1, rfl, rfl, rfl, w1⟩ := open_int Try.underlying5 (hval 1 5 v1 rfl rfl) h1
 clear hA0 hval0 hsz0 hsz
 refine (Y.pa_.walk Pure.rs_ a0 len0 cap0 z0 a1 W w0 y0 w1).mono fun e W' ⟨he, bel⟩ => ?_
 subst he
 exact ⟨_, rfl, _, _, _, [], _, [], hW', trodAll_mk1 (shut_bool Try.underlying4 _), (trodAll_cons_mk (Below.trod laidOut (by kernel_rfl) (of_decide_eq_true (by kernel_rfl)) k0 bel lt0) (trodAll_cons_mk (shut_int Try.underlying5 w1) trodAll_mk0)), rfl, bel.frame _, fun h => by cases h⟩
theorem over : Rows.rscodeLinearRow.holds Try.pinned (OpenSpec.ofChange Rows.rscodeLinearSpec) :=
 OpenClaim.holds_of_wide 11 Try.f11 rfl rfl rfl rfl rfl rfl rfl ⟨rfl, rfl, rfl, rfl, rfl⟩ rfl rfl rfl rfl rfl (by kernel_rfl) Try.func11 (by kernel_rfl)
  (of_decide_eq_true (by kernel_rfl)) (by unfold Func.isWrapper; first | (rw [if_pos (by decide +kernel)]; kernel_rfl) | (rw [if_neg (by decide +kernel)]; exact ⟨rfl, rfl⟩))
  (fun os started H enc _ => lifted os started H enc)
theorem proved : Rows.RscodeLinearSaid := over
end Go.Proofs.Ytpkhgapifnjbeaa.rscodeLinear
namespace Go.Proofs.Ytpkhgapifnjbeaa
theorem rscodeLinear_holds : Rows.RscodeLinearSaid := rscodeLinear.proved
end Go.Proofs.Ytpkhgapifnjbeaa
end
