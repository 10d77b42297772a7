/- A part of the proofs of this seat's statements (texts put together by pack2.py of this claim's repo). -/
import Derived.Test.YtpkhgapifnjbeaaProg
import Derived.Below
import Derived.Deep.Draws
import Derived.Deep.AppendLies
import Derived.Maps.AppendAt
import Derived.OwnWalk
import Derived.Laws.BytesArg
import Derived.Laws.MakeOwn
import Derived.Laws.OwnMore
import Derived.Deep.OwnRows
import Derived.Tactics
import Derived.Lib.ConvBytes
import Derived.Laws.Slices
import Derived.WalkKit
import Derived.KernelRfl
import Derived.RowKit3
import Derived.Deep.LoopGhost
import Derived.Deep.QuietTactic
import Derived.BigQuiet
import Derived.WideLaws
import Derived.Deep.DeepCutAuto
import Derived.Deep.CutBlock
import Derived.Deep.RegionHeld3
import Derived.Laws.Rows
import Derived.Lib.AppendStr
import Derived.ArgAppend
import Derived.Laws.IdiomCopy
import Derived.OrdersHeld
import Derived.Laws.BitsLemmas
import Derived.RowKit
import Derived.Test.YtpkhgapifnjbeaaRows
import Derived.ProofKit
import Derived.OpenShut
import Derived.ShutString
import Derived.ChangeOld
import Derived.SizedLaws
import Derived.Test.YtpkhgapifnjbeaaMB6
section
namespace Go.Proofs.Ytpkhgapifnjbeaa.Y
open Go.RowKit Go.Proofs.Ytpkhgapifnjbeaa.G Go.Proofs.Ytpkhgapifnjbeaa.Rs Go.Proofs.YtpkhgapifnjbeaaW.PrintWords Go.Proofs.YtpkhgapifnjbeaaW.PrintLast Go.Proofs.YtpkhgapifnjbeaaW.PrintMore
attribute [local go_sem] dd_ fd_ rd_ sd_ uc_ vc_ ed_ gd_
set_option linter.unusedVariables false
set_option linter.unusedSimpArgs false
def errW : Option Int → Value
 | none => .nilIface
 | some c => .iface 0 (.int .i64 c)
theorem bb_ : errW none = .nilIface := rfl
theorem cb_ (c : Int) : errW (some c) = .iface 0 (.int .i64 c) := rfl
theorem te_ : (Try.prog.info? 3).map (fun i => (i.zero, i.size, i.bytes)) = some (some (.int .i64 0), 1, 8) := by kernel_rfl
def re_ (xs : List (List Int)) (i : Int) : (List Int) := xs.getD i.toNat ([] : List Int)
theorem yk_ {w : World} {A : Option Addr} {n : Nat} {xs : List (List Int)} (h : Kd.C (Kd.slice 3 (Kd.int .i64)) w A n xs) (i : Int) (h0 : 0 ≤ i) (h1 : i < n) : ∃ ad A0 c0, A = some ad ∧ w.cell? (ad.add i.toNat) = some (.slice A0 (re_ xs i).length c0) ∧ (re_ xs i).length ≤ c0 ∧ (Kd.int .i64).C w A0 (re_ xs i).length (re_ xs i) := by
 obtain ⟨ad, c, e, _, hK, hc0⟩ := Kd.ai_ h ([] : List Int) i h0 h1
 have hc : ∀ j u, c[j]? = some u → w.cell? (ad.add (i.toNat * 1 + j)) = some u := hc0
 obtain ⟨A0, c0, rfl, l0, g0⟩ := hK
 exact ⟨ad, A0, c0, e, by have hq := hc 0 _ rfl; rwa [Nat.mul_one, Nat.add_zero] at hq, l0, g0⟩
end Go.Proofs.Ytpkhgapifnjbeaa.Y
end
section
namespace Go.Proofs.Ytpkhgapifnjbeaa.Y
open Go.RowKit Go.Proofs.Ytpkhgapifnjbeaa.G Go.Proofs.Ytpkhgapifnjbeaa.Rs Go.Proofs.YtpkhgapifnjbeaaW.PrintWords Go.Proofs.YtpkhgapifnjbeaaW.PrintLast Go.Proofs.YtpkhgapifnjbeaaW.PrintMore
attribute [local go_sem] dd_ fd_ rd_ sd_ uc_ vc_ ed_ gd_
set_option linter.unusedVariables false
set_option linter.unusedSimpArgs false
def ab_.f (a0 : Int) (a1 : Int) : Option (Int) := if a1 < 1 then (some 0) else (if a1 = 0 then (none) else (if (Int.tmod a0 a1) < 0 then (some (wrap64 ((Int.tmod a0 a1) + a1))) else (some (Int.tmod a0 a1))))
set_option maxHeartbeats 8000000 in
set_option maxRecDepth 100000 in
theorem ab_.calls (a0 : Int) (a1 : Int) (r : Int) (w : World) (h : ab_.f a0 a1 = some r) :
  Calls Try.prog 14 #[.int .i64 a0, .int .i64 a1] w fun e w' => e = .returned (.int .i64 r) ∧ ra_ w w' := by
 have H : (if a1 < 1 then (some 0) else (if a1 = 0 then (none) else (if (Int.tmod a0 a1) < 0 then (some (wrap64 ((Int.tmod a0 a1) + a1))) else (some (Int.tmod a0 a1))))) = some r := h
 clear h
 by_cases c3 : a1 < 1
 ·rw [if_pos c3] at H
  have c3b0 : decide (a1 < 1) = true := decide_eq_true c3
  clear c3
  obtain rfl := Option.some.inj H
  go_enter Try.func14, Try.ntmps14
  go_wp2
  go_ret
  exact ⟨by first | rfl | (simp; done) | (simp [*]; done), by repeat (first | exact ra_.refl _ | apply ra_.step)⟩
 ·rw [if_neg c3] at H
  have c3b0 : decide (a1 < 1) = false := decide_eq_false c3
  clear c3
  by_cases c4 : a1 = 0
  ·rw [if_pos c4] at H
   exact absurd H (by simp)
  ·rw [if_neg c4] at H
   have c4b0 : (a1 == 0) = false := beq_eq_false_iff_ne.mpr c4
   have c4b1 : (a1 != 0) = true := bne_iff_ne.mpr c4
   by_cases c5 : (Int.tmod a0 a1) < 0
   ·rw [if_pos c5] at H
    have c5b0 : decide ((Int.tmod a0 a1) < 0) = true := decide_eq_true c5
    clear c5
    obtain rfl := Option.some.inj H
    go_enter Try.func14, Try.ntmps14
    go_wp2
    go_ret
    exact ⟨by first | rfl | (simp; done) | (simp [*]; done), by repeat (first | exact ra_.refl _ | apply ra_.step)⟩
   ·rw [if_neg c5] at H
    have c5b0 : decide ((Int.tmod a0 a1) < 0) = false := decide_eq_false c5
    clear c5
    obtain rfl := Option.some.inj H
    go_enter Try.func14, Try.ntmps14
    go_wp2
    go_ret
    exact ⟨by first | rfl | (simp; done) | (simp [*]; done), by repeat (first | exact ra_.refl _ | apply ra_.step)⟩
def aa_.l0 : Nat → List Int → List Int → Int → Option (Bool)
 | 0, _, _, _ => none
 | k + 1, x0, x1, x5 => if x5 < (x0.length : Int) then (if 0 ≤ x5 then (if x5 < (x1.length : Int) then (if (rd x0 x5) = (rd x1 x5) then (aa_.l0 k x0 x1 (wrap64 (x5 + 1))) else (some false)) else (none)) else (none)) else (some true)
def aa_.f (k : Nat) (l0 : List Int) (l1 : List Int) : Option (Bool) := if (l0.length : Int) = (l1.length : Int) then (aa_.l0 k l0 l1 0) else (some false)
theorem aa_.xc_ : ∀ k, (∀ y0 y1 y2, LeO (aa_.l0 k y0 y1 y2) (aa_.l0 (k + 1) y0 y1 y2))
 | 0 => fun _ _ _ r h => by simp [aa_.l0] at h
 | k + 1 => by
  have ih0 := aa_.xc_ k
  ·intro y0 y1 y2
   unfold aa_.l0
   repeat' first
   | (with_reducible exact ih0 _ _ _)
   | (with_reducible exact LeO.refl _)
   | (with_reducible exact LeO.none _)
   | (with_reducible refine LeO.ite ?_ ?_)
   | (with_reducible refine LeO.bind ?_ (fun _ => ?_))
   | exact ih0 _ _ _
   | exact LeO.none _
   | refine LeO.ite ?_ ?_
   | refine LeO.bind ?_ (fun _ => ?_)
theorem aa_.mono : ∀ a0 a1 k, LeO (aa_.f k a0 a1) (aa_.f (k + 1) a0 a1) := by
 intro a0 a1 k
 have ih0 := aa_.xc_ k
 unfold aa_.f
 repeat' first
   | (with_reducible exact ih0 _ _ _)
   | (with_reducible exact LeO.refl _)
   | (with_reducible exact LeO.none _)
   | (with_reducible refine LeO.ite ?_ ?_)
   | (with_reducible refine LeO.bind ?_ (fun _ => ?_))
   | exact ih0 _ _ _
   | exact LeO.none _
   | refine LeO.ite ?_ ?_
   | refine LeO.bind ?_ (fun _ => ?_)
set_option maxHeartbeats 8000000 in
set_option maxRecDepth 100000 in
theorem aa_.calls (k : Nat) (A0 : Option Addr) (c0 : Nat) (l0 : List Int) (A1 : Option Addr) (c1 : Nat) (l1 : List Int) (r : Bool) (w : World) (hr0 : Kd.C (Kd.int .i64) w A0 l0.length l0) (hc0 : l0.length ≤ c0) (hr1 : Kd.C (Kd.int .i64) w A1 l1.length l1) (hc1 : l1.length ≤ c1) (h : aa_.f k l0 l1 = some r) :
  Calls Try.prog 29 #[.slice A0 l0.length c0, .slice A1 l1.length c1] w fun e w' => e = .returned (.bool r) ∧ ra_ w w' := by
 have HR0 := ba_.mk hr0
 have HC0 := ba_.mk hc0
 clear hr0 hc0
 have HR1 := ba_.mk hr1
 have HC1 := ba_.mk hc1
 clear hr1 hc1
 have H : (if (l0.length : Int) = (l1.length : Int) then (aa_.l0 k l0 l1 0) else (some false)) = some r := h
 clear h
 by_cases c3 : (l0.length : Int) = (l1.length : Int)
 ·rw [if_pos c3] at H
  have c3b0 : ((l0.length : Int) == (l1.length : Int)) = true := beq_iff_eq.mpr c3
  try have c3b9 := eq_true (beq_iff_eq.mp c3b0)
  have c3b1 : ((l0.length : Int) != (l1.length : Int)) = false := bne_eq_false_iff_eq.mpr c3
  have c3b2 : (l0.length == l1.length) = true := by first | simpa using c3 | (simp at c3 ⊢; omega)
  clear c3
  have H' := ba_.mk H
  clear H
  go_enter Try.func29, Try.ntmps29
  go_wp2
  repeat (go_quiet (fail); try go_wp2)
  go_loopg [5] k (fun kq v5 w' => ∃ (x5_1 : Int), v5 = .int .i64 x5_1 ∧ ba_ (aa_.l0 kq l0 l1 x5_1 = some r) ∧ ba_ (kq ≤ k) ∧ ra_ w w')
  case atStart => exact ⟨(0), (by first | rfl | (simp; done) | (simp [*]; done)), H', ⟨Nat.le_refl _⟩, by repeat (first | exact ra_.refl _ | apply ra_.step)⟩
  case round =>
   clear H'
   try clear c1
   try clear c2
   try clear p2
   try clear c3
   try clear c3b0
   try clear c3b1
   try clear c3b2
   obtain ⟨x5_1, rfl, HA, HK1, ⟨m1, rfl⟩⟩ := hrel
   cases gk with
   | zero => exact absurd HA.out (by simp [aa_.l0])
   | succ k1 =>
    have H := HA.out
    clear HA
    simp only [aa_.l0] at H
    by_cases c4 : x5_1 < (l0.length : Int)
    ·rw [if_pos c4] at H
     have c4b0 : decide (x5_1 < (l0.length : Int)) = true := decide_eq_true c4
     clear c4
     by_cases c5 : 0 ≤ x5_1
     ·rw [if_pos c5] at H
      have c5b0 : decide (0 ≤ x5_1) = true := decide_eq_true c5
      clear c5
      by_cases c6 : x5_1 < (l1.length : Int)
      ·rw [if_pos c6] at H
       have c6b0 : decide (x5_1 < (l1.length : Int)) = true := decide_eq_true c6
       clear c6
       by_cases c7 : (rd l0 x5_1) = (rd l1 x5_1)
       ·rw [if_pos c7] at H
        have c7b0 : ((rd l0 x5_1) == (rd l1 x5_1)) = true := beq_iff_eq.mpr c7
        try have c7b9 := eq_true (beq_iff_eq.mp c7b0)
        have c7b1 : ((rd l0 x5_1) != (rd l1 x5_1)) = false := bne_eq_false_iff_eq.mpr c7
        clear c7
        have H' := ba_.mk H
        clear H
        have p101 : 0 ≤ (x5_1 : Int) := of_decide_eq_true (by first | (with_reducible assumption) | assumption)
        have q101 : x5_1 < (l0.length : Int) := of_decide_eq_true (by first | (with_reducible assumption) | assumption)
        obtain ⟨ad101, e101, hx101_0⟩ := Kd.nd_ HR0.out x5_1 p101 q101
        cases e101
        replace p101 := eq_true p101
        replace q101 := eq_true q101
        have p102 : 0 ≤ (x5_1 : Int) := of_decide_eq_true (by first | (with_reducible assumption) | assumption)
        have q102 : x5_1 < (l1.length : Int) := of_decide_eq_true (by first | (with_reducible assumption) | assumption)
        obtain ⟨ad102, e102, hx102_0⟩ := Kd.nd_ HR1.out x5_1 p102 q102
        cases e102
        replace p102 := eq_true p102
        replace q102 := eq_true q102
        go_wp2
        repeat (go_quiet (fail); try go_wp2)
        go_roundg k1
        case measure => have := HK1.out; omega
        case rel => exact ⟨(wrap64 (x5_1 + 1)), (by first | rfl | (simp; done) | (simp [*]; done)), H', ⟨by have := HK1.out; omega⟩, by repeat (first | exact ra_.refl _ | apply ra_.step)⟩
       ·rw [if_neg c7] at H
        have c7b0 : ((rd l0 x5_1) == (rd l1 x5_1)) = false := beq_eq_false_iff_ne.mpr c7
        try have c7b9 := eq_false (beq_eq_false_iff_ne.mp c7b0)
        have c7b1 : ((rd l0 x5_1) != (rd l1 x5_1)) = true := bne_iff_ne.mpr c7
        obtain rfl := Option.some.inj H
        have p101 : 0 ≤ (x5_1 : Int) := of_decide_eq_true (by first | (with_reducible assumption) | assumption)
        have q101 : x5_1 < (l0.length : Int) := of_decide_eq_true (by first | (with_reducible assumption) | assumption)
        obtain ⟨ad101, e101, hx101_0⟩ := Kd.nd_ HR0.out x5_1 p101 q101
        cases e101
        replace p101 := eq_true p101
        replace q101 := eq_true q101
        have p102 : 0 ≤ (x5_1 : Int) := of_decide_eq_true (by first | (with_reducible assumption) | assumption)
        have q102 : x5_1 < (l1.length : Int) := of_decide_eq_true (by first | (with_reducible assumption) | assumption)
        obtain ⟨ad102, e102, hx102_0⟩ := Kd.nd_ HR1.out x5_1 p102 q102
        cases e102
        replace p102 := eq_true p102
        replace q102 := eq_true q102
        go_wp2
        repeat (go_quiet (fail); try go_wp2)
        go_ret
        exact ⟨by first | rfl | (simp; done) | (simp [*]; done), by repeat (first | exact ra_.refl _ | apply ra_.step)⟩
      ·rw [if_neg c6] at H
       exact absurd H (by simp)
     ·rw [if_neg c5] at H
      exact absurd H (by simp)
    ·rw [if_neg c4] at H
     have c4b0 : decide (x5_1 < (l0.length : Int)) = false := decide_eq_false c4
     clear c4
     obtain rfl := Option.some.inj H
     go_wp2
     repeat (go_quiet (fail); try go_wp2)
     go_ret
     exact ⟨by first | rfl | (simp; done) | (simp [*]; done), by repeat (first | exact ra_.refl _ | apply ra_.step)⟩
 ·rw [if_neg c3] at H
  have c3b0 : ((l0.length : Int) == (l1.length : Int)) = false := beq_eq_false_iff_ne.mpr c3
  try have c3b9 := eq_false (beq_eq_false_iff_ne.mp c3b0)
  have c3b1 : ((l0.length : Int) != (l1.length : Int)) = true := bne_iff_ne.mpr c3
  have c3b2 : (l0.length == l1.length) = false := by first | simpa using c3 | (simp at c3 ⊢; omega)
  obtain rfl := Option.some.inj H
  go_enter Try.func29, Try.ntmps29
  go_wp2
  repeat (go_quiet (fail); try go_wp2)
  go_ret
  exact ⟨by first | rfl | (simp; done) | (simp [*]; done), by repeat (first | exact ra_.refl _ | apply ra_.step)⟩
def ha_.f (k : Nat)  : Option (Bool) := (ge_.f (([3, 1] : List Int))).bind fun bt106 => ((je_.f bt106.1).bind fun bt110 => ((ud_.f 16 2).bind fun t115 => (if t115 = 5 then ((nc_.f 2).bind fun t116 => (if t116 = 18 then (if bt106.2 = 0 then (if (bt106.1.length : Int) = 8 then ((ee_.f bt106.1).bind fun t117 => (if t117 = true then (if bt110.2.2 = 0 then (if bt110.2.1 = 0 then ((aa_.f k bt110.1 (([3, 1] : List Int))).bind fun t121 => (some t121)) else (some false)) else (some false)) else (some false))) else (some false)) else (some false)) else (some false))) else (some false))))
theorem ha_.mono : ∀ k, LeO (ha_.f k ) (ha_.f (k + 1) ) := by
 intro  k
 unfold ha_.f
 repeat' first
   | (with_reducible exact aa_.mono _ _ _)
   | (with_reducible exact LeO.refl _)
   | (with_reducible exact LeO.none _)
   | (with_reducible refine LeO.ite ?_ ?_)
   | (with_reducible refine LeO.bind ?_ (fun _ => ?_))
   | exact aa_.mono _ _ _
   | exact LeO.none _
   | refine LeO.ite ?_ ?_
   | refine LeO.bind ?_ (fun _ => ?_)
set_option maxHeartbeats 8000000 in
set_option maxRecDepth 100000 in
theorem ha_.calls (k : Nat)  (r : Bool) (w : World) (h : ha_.f k  = some r) (hr_ : r = true) :
  Calls Try.prog 19 #[] w fun e w' => e = .returned (.bool r) ∧ Below w.heap.size w w' := by
 have HRT := ba_.mk hr_
 clear hr_
 have HB := ba_.mk (Below.refl w.heap.size w)
 have H : ((ge_.f (([3, 1] : List Int))).bind fun bt106 => ((je_.f bt106.1).bind fun bt110 => ((ud_.f 16 2).bind fun t115 => (if t115 = 5 then ((nc_.f 2).bind fun t116 => (if t116 = 18 then (if bt106.2 = 0 then (if (bt106.1.length : Int) = 8 then ((ee_.f bt106.1).bind fun t117 => (if t117 = true then (if bt110.2.2 = 0 then (if bt110.2.1 = 0 then ((aa_.f k bt110.1 (([3, 1] : List Int))).bind fun t121 => (some t121)) else (some false)) else (some false)) else (some false))) else (some false)) else (some false)) else (some false))) else (some false))))) = some r := h
 clear h
 obtain ⟨y103, hy103⟩ : ∃ y_ : List Int, y_ = (([3, 1] : List Int)) := ⟨_, rfl⟩
 replace H : ((ge_.f y103).bind fun bt106 => ((je_.f bt106.1).bind fun bt110 => ((ud_.f 16 2).bind fun t115 => (if t115 = 5 then ((nc_.f 2).bind fun t116 => (if t116 = 18 then (if bt106.2 = 0 then (if (bt106.1.length : Int) = 8 then ((ee_.f bt106.1).bind fun t117 => (if t117 = true then (if bt110.2.2 = 0 then (if bt110.2.1 = 0 then ((aa_.f k bt110.1 (([3, 1] : List Int))).bind fun t121 => (some t121)) else (some false)) else (some false)) else (some false))) else (some false)) else (some false)) else (some false))) else (some false))))) = some r := by first | (rw [hy103]; with_reducible exact H) | (have H2_ := (Option.bind_some _ _).symm.trans H; rw [hy103]; with_reducible exact H2_) | (have H2_ := (Option.bind_some _ _).symm.trans H; with_reducible exact H2_) | with_reducible exact H | (rw [hy103]; exact H) | exact H
 have Ny103 := ba_.mk hy103
 clear hy103
 replace H := Option.bind_eq_some_iff.mp H
 obtain ⟨⟨t106, t107⟩, A10, H⟩ := H
 replace H : ((je_.f t106).bind fun bt110 => ((ud_.f 16 2).bind fun t115 => (if t115 = 5 then ((nc_.f 2).bind fun t116 => (if t116 = 18 then (if t107 = 0 then (if (t106.length : Int) = 8 then ((ee_.f t106).bind fun t117 => (if t117 = true then (if bt110.2.2 = 0 then (if bt110.2.1 = 0 then ((aa_.f k bt110.1 (([3, 1] : List Int))).bind fun t121 => (some t121)) else (some false)) else (some false)) else (some false))) else (some false)) else (some false)) else (some false))) else (some false)))) = some r := H
 have A1 := ba_.mk A10
 clear A10
 replace H := Option.bind_eq_some_iff.mp H
 obtain ⟨⟨t110, t111, t112⟩, A20, H⟩ := H
 replace H : ((ud_.f 16 2).bind fun t115 => (if t115 = 5 then ((nc_.f 2).bind fun t116 => (if t116 = 18 then (if t107 = 0 then (if (t106.length : Int) = 8 then ((ee_.f t106).bind fun t117 => (if t117 = true then (if t112 = 0 then (if t111 = 0 then ((aa_.f k t110 (([3, 1] : List Int))).bind fun t121 => (some t121)) else (some false)) else (some false)) else (some false))) else (some false)) else (some false)) else (some false))) else (some false))) = some r := H
 have A2 := ba_.mk A20
 clear A20
 replace H := Option.bind_eq_some_iff.mp H
 obtain ⟨t115, A30, H⟩ := H
 replace H : (if t115 = 5 then ((nc_.f 2).bind fun t116 => (if t116 = 18 then (if t107 = 0 then (if (t106.length : Int) = 8 then ((ee_.f t106).bind fun t117 => (if t117 = true then (if t112 = 0 then (if t111 = 0 then ((aa_.f k t110 (([3, 1] : List Int))).bind fun t121 => (some t121)) else (some false)) else (some false)) else (some false))) else (some false)) else (some false)) else (some false))) else (some false)) = some r := H
 have A3 := ba_.mk A30
 clear A30
 by_cases c4 : t115 = 5
 ·rw [if_pos c4] at H
  have c4b0 : (t115 == 5) = true := beq_iff_eq.mpr c4
  have c4b1 : (t115 != 5) = false := bne_eq_false_iff_eq.mpr c4
  clear c4
  replace H := Option.bind_eq_some_iff.mp H
  obtain ⟨t116, A50, H⟩ := H
  replace H : (if t116 = 18 then (if t107 = 0 then (if (t106.length : Int) = 8 then ((ee_.f t106).bind fun t117 => (if t117 = true then (if t112 = 0 then (if t111 = 0 then ((aa_.f k t110 (([3, 1] : List Int))).bind fun t121 => (some t121)) else (some false)) else (some false)) else (some false))) else (some false)) else (some false)) else (some false)) = some r := H
  have A5 := ba_.mk A50
  clear A50
  by_cases c6 : t116 = 18
  ·rw [if_pos c6] at H
   have c6b0 : (t116 == 18) = true := beq_iff_eq.mpr c6
   have c6b1 : (t116 != 18) = false := bne_eq_false_iff_eq.mpr c6
   clear c6
   by_cases c7 : t107 = 0
   ·rw [if_pos c7] at H
    have c7b0 : (t107 == 0) = true := beq_iff_eq.mpr c7
    have c7b1 : (t107 != 0) = false := bne_eq_false_iff_eq.mpr c7
    clear c7
    by_cases c8 : (t106.length : Int) = 8
    ·rw [if_pos c8] at H
     have c8b0 : ((t106.length : Int) == 8) = true := beq_iff_eq.mpr c8
     try have c8b9 := eq_true (beq_iff_eq.mp c8b0)
     have c8b1 : ((t106.length : Int) != 8) = false := bne_eq_false_iff_eq.mpr c8
     clear c8
     replace H := Option.bind_eq_some_iff.mp H
     obtain ⟨t117, A90, H⟩ := H
     replace H : (if t117 = true then (if t112 = 0 then (if t111 = 0 then ((aa_.f k t110 (([3, 1] : List Int))).bind fun t121 => (some t121)) else (some false)) else (some false)) else (some false)) = some r := H
     have A9 := ba_.mk A90
     clear A90
     by_cases c10 : t117 = true
     ·subst c10
      have H1 : (if t112 = 0 then (if t111 = 0 then ((aa_.f k t110 (([3, 1] : List Int))).bind fun t121 => (some t121)) else (some false)) else (some false)) = some r := by rw [if_pos rfl] at H; exact H
      clear H
      have H := H1
      clear H1
      by_cases c11 : t112 = 0
      ·rw [if_pos c11] at H
       have c11b0 : (t112 == 0) = true := beq_iff_eq.mpr c11
       have c11b1 : (t112 != 0) = false := bne_eq_false_iff_eq.mpr c11
       clear c11
       by_cases c12 : t111 = 0
       ·rw [if_pos c12] at H
        have c12b0 : (t111 == 0) = true := beq_iff_eq.mpr c12
        have c12b1 : (t111 != 0) = false := bne_eq_false_iff_eq.mpr c12
        clear c12
        obtain ⟨y118, hy118⟩ : ∃ y_ : List Int, y_ = (([3, 1] : List Int)) := ⟨_, rfl⟩
        replace H : ((aa_.f k t110 y118).bind fun t121 => (some t121)) = some r := by first | (rw [hy118]; with_reducible exact H) | (have H2_ := (Option.bind_some _ _).symm.trans H; rw [hy118]; with_reducible exact H2_) | (have H2_ := (Option.bind_some _ _).symm.trans H; with_reducible exact H2_) | with_reducible exact H | (rw [hy118]; exact H) | exact H
        have Ny118 := ba_.mk hy118
        clear hy118
        replace H := Option.bind_eq_some_iff.mp H
        obtain ⟨t121, A130, H⟩ := H
        replace H : (some t121) = some r := H
        have A13 := ba_.mk A130
        clear A130
        obtain rfl := Option.some.inj H
        go_enter Try.func19, Try.ntmps19
        go_wp2_with (first | ((with_reducible refine yd_ (N := 7) rfl ?_); (try (refine ce_ (by rfl) ?_; dsimp only)); refine Kd.ri_ (Kd.int .i64) _ 3 ?hg (N := 7) ?hd (xs := ([3, 1] : List Int)) (inner := [.int .i64 3, .int .i64 1]) (ok := fun _ => True) (okp := fun _ => True) ?hr ?hp (fun _ hk => hk) trivial (Below.refl _ _) (Nat.le_refl _) (by simp) ?_; (case hd => rfl); (case hg => rfl); (case hr => first | (go_simp; done) | (go_simp; rfl)); (case hp => exact (Reps.one (show Kd.M (Kd.int .i64) _ _ _ 3 [.int .i64 3] from rfl) (Reps.one (show Kd.M (Kd.int .i64) _ _ _ 1 [.int .i64 1] from rfl) (Reps.none _ _)))); intro v104 w14 ho15 hb hg_ hnew_; clear hg_ hnew_; (first | rw [← Ny103.out] at ho15 | (simp only [Int.reduceToNat] at ho15; rw [← Ny103.out] at ho15)); have n0_ := ba_.mk (Kd.wc_ ho15 (eb_ (by repeat (first | (with_reducible first | exact HB.out | apply fa_ | apply ca_ | apply ga_) | exact HB.out)))); have n1_ := ba_.mk (gb_ (by repeat (first | (with_reducible first | exact HB.out | apply fa_ | apply ca_ | apply ga_) | exact HB.out)) hb); clear HB; have HO105 := n0_; have HB := n1_; clear n0_ n1_; clear hb ho15; obtain ⟨Ao16, co16, eo16⟩ := Kd.fc_ HO105.out; subst eo16) | ((with_reducible refine ua_ (f := 27) rfl ?_); refine hc_ (some 8) rfl rfl Try.func27 (by kernel_rfl) rfl #[.slice Ao16 y103.length co16] rfl (by (try simp only [List.map_toArray, List.map_cons, List.map_nil]); first | done | rfl | (simp only [List.length_drop, List.length_take]; rfl)) ?_; (with_reducible refine (ge_.calls _ _ y103 t106 t107 _ ?side1 ?side2 A1.out).mono ?_); (case side1 => repeat (first | exact (Kd.ta_ HO105.out).2.2 | (with_reducible refine Kd.yb_ ?_ _) | (with_reducible refine Kd.zb_ ?_ _) | (with_reducible refine Kd.jc_ ?_))); (case side2 => exact (Kd.ta_ HO105.out).2.1); rintro e w17 ⟨v108, rfl, ho0, hb⟩; refine ⟨_, rfl, ?_⟩; have n0_ := ba_.mk (Kd.wb_ (by (with_reducible repeat (first | apply Kd.la_ | apply Kd.ka_ | apply Kd.ma_)); exact HO105.out) (Kd.rc_ ho0) hb); have n1_ := ba_.mk (Kd.wc_ (Kd.qc_ ho0 (Kd.R_lt (by (with_reducible repeat (first | apply Kd.la_ | apply Kd.ka_ | apply Kd.ma_)); exact HO105.out))) (eb_ (by repeat (first | (with_reducible first | exact HB.out | apply fa_ | apply ca_ | apply ga_) | exact HB.out)))); have n2_ := ba_.mk (gb_ (by repeat (first | (with_reducible first | exact HB.out | apply fa_ | apply ca_ | apply ga_) | exact HB.out)) hb); clear HO105; clear HB; have HO105 := n0_; have HO109 := n1_; have HB := n2_; clear n0_ n1_ n2_; (try clear hb); (try clear hb2); (try clear hk); (try clear hi); (try clear ho0); obtain ⟨Ao18, co18, eo18⟩ := Kd.fc_ HO109.out; subst eo18) | ((with_reducible refine ua_ (f := 34) rfl ?_); refine hc_ (some 13) rfl rfl Try.func34 (by kernel_rfl) rfl #[.slice Ao18 t106.length co18] rfl (by (try simp only [List.map_toArray, List.map_cons, List.map_nil]); first | done | rfl | (simp only [List.length_drop, List.length_take]; rfl)) ?_; (with_reducible refine (je_.calls _ _ t106 t110 t111 t112 _ ?side1 ?side2 A2.out).mono ?_); (case side1 => repeat (first | exact (Kd.ta_ HO109.out).2.2 | (with_reducible refine Kd.yb_ ?_ _) | (with_reducible refine Kd.zb_ ?_ _) | (with_reducible refine Kd.jc_ ?_))); (case side2 => exact (Kd.ta_ HO109.out).2.1); rintro e w19 ⟨v113, rfl, ho0, hb⟩; refine ⟨_, rfl, ?_⟩; have n0_ := ba_.mk (Kd.wb_ (by (with_reducible repeat (first | apply Kd.la_ | apply Kd.ka_ | apply Kd.ma_)); exact HO105.out) (Kd.rc_ ho0) hb); have n1_ := ba_.mk (Kd.wb_ (by (with_reducible repeat (first | apply Kd.la_ | apply Kd.ka_ | apply Kd.ma_)); exact HO109.out) (Kd.rc_ ho0) hb); have n2_ := ba_.mk (Kd.wc_ (Kd.qc_ (Kd.qc_ ho0 (Kd.R_lt (by (with_reducible repeat (first | apply Kd.la_ | apply Kd.ka_ | apply Kd.ma_)); exact HO105.out))) (Kd.R_lt (by (with_reducible repeat (first | apply Kd.la_ | apply Kd.ka_ | apply Kd.ma_)); exact HO109.out))) (eb_ (by repeat (first | (with_reducible first | exact HB.out | apply fa_ | apply ca_ | apply ga_) | exact HB.out)))); have n3_ := ba_.mk (gb_ (by repeat (first | (with_reducible first | exact HB.out | apply fa_ | apply ca_ | apply ga_) | exact HB.out)) hb); clear HO105; clear HO109; clear HB; have HO105 := n0_; have HO109 := n1_; have HO114 := n2_; have HB := n3_; clear n0_ n1_ n2_ n3_; (try clear hb); (try clear hb2); (try clear hk); (try clear hi); (try clear ho0)) | ((with_reducible refine ua_ (f := 15) rfl ?_); refine hc_ (some 17) rfl rfl Try.func15 (by kernel_rfl) rfl #[.int .i64 16, .int .i64 2] rfl (by (try simp only [List.map_toArray, List.map_cons, List.map_nil]); first | done | rfl | (simp only [List.length_drop, List.length_take]; rfl)) ?_; (with_reducible refine (ud_.calls 16 2 t115 _ A3.out).mono ?_); rintro e w' ⟨rfl, ⟨nd, rfl⟩⟩; refine ⟨_, rfl, ?_⟩) | (go_at_call 17; (with_reducible refine (nc_.calls 2 t116 _ A5.out).mono ?_); rintro e w' ⟨rfl, ⟨nd, rfl⟩⟩) | (go_at_call 32; (with_reducible refine (ee_.calls _ _ t106 true _ ?side1 ?side2 A9.out).mono ?_); (case side1 => repeat (first | exact (Kd.ta_ HO109.out).2.2 | (with_reducible refine Kd.yb_ ?_ _) | (with_reducible refine Kd.zb_ ?_ _) | (with_reducible refine Kd.jc_ ?_))); (case side2 => exact (Kd.ta_ HO109.out).2.1); rintro e w20 ⟨rfl, hb⟩; have n0_ := ba_.mk (Kd.cd_ (by (with_reducible repeat (first | apply Kd.la_ | apply Kd.ka_ | apply Kd.ma_)); exact HO105.out) hb); have n1_ := ba_.mk (Kd.cd_ (by (with_reducible repeat (first | apply Kd.la_ | apply Kd.ka_ | apply Kd.ma_)); exact HO109.out) hb); have n2_ := ba_.mk (Kd.cd_ (by (with_reducible repeat (first | apply Kd.la_ | apply Kd.ka_ | apply Kd.ma_)); exact HO114.out) hb); have n3_ := ba_.mk (gb_ (by repeat (first | (with_reducible first | exact HB.out | apply fa_ | apply ca_ | apply ga_) | exact HB.out)) hb); clear HO105; clear HO109; clear HO114; clear HB; have HO105 := n0_; have HO109 := n1_; have HO114 := n2_; have HB := n3_; clear n0_ n1_ n2_ n3_; (try clear hb); (try clear hb2); (try clear hk); (try clear hi)) | ((with_reducible refine yd_ (N := 46) rfl ?_); (try (refine ce_ (by rfl) ?_; dsimp only)); refine Kd.ri_ (Kd.int .i64) _ 3 ?hg (N := 46) ?hd (xs := ([3, 1] : List Int)) (inner := [.int .i64 3, .int .i64 1]) (ok := fun _ => True) (okp := fun _ => True) ?hr ?hp (fun _ hk => hk) trivial (Below.refl _ _) (Nat.le_refl _) (by simp) ?_; (case hd => rfl); (case hg => rfl); (case hr => first | (go_simp; done) | (go_simp; rfl)); (case hp => exact (Reps.one (show Kd.M (Kd.int .i64) _ _ _ 3 [.int .i64 3] from rfl) (Reps.one (show Kd.M (Kd.int .i64) _ _ _ 1 [.int .i64 1] from rfl) (Reps.none _ _)))); intro v119 w21 ho22 hb hg_ hnew_; clear hg_ hnew_; (first | rw [← Ny118.out] at ho22 | (simp only [Int.reduceToNat] at ho22; rw [← Ny118.out] at ho22)); have n0_ := ba_.mk (Kd.wb_ (by (with_reducible repeat (first | apply Kd.la_ | apply Kd.ka_ | apply Kd.ma_)); exact HO105.out) (Kd.rc_ ho22) hb); have n1_ := ba_.mk (Kd.wb_ (by (with_reducible repeat (first | apply Kd.la_ | apply Kd.ka_ | apply Kd.ma_)); exact HO109.out) (Kd.rc_ ho22) hb); have n2_ := ba_.mk (Kd.wb_ (by (with_reducible repeat (first | apply Kd.la_ | apply Kd.ka_ | apply Kd.ma_)); exact HO114.out) (Kd.rc_ ho22) hb); have n3_ := ba_.mk (Kd.wc_ (Kd.qc_ (Kd.qc_ (Kd.qc_ ho22 (Kd.R_lt (by (with_reducible repeat (first | apply Kd.la_ | apply Kd.ka_ | apply Kd.ma_)); exact HO105.out))) (Kd.R_lt (by (with_reducible repeat (first | apply Kd.la_ | apply Kd.ka_ | apply Kd.ma_)); exact HO109.out))) (Kd.R_lt (by (with_reducible repeat (first | apply Kd.la_ | apply Kd.ka_ | apply Kd.ma_)); exact HO114.out))) (eb_ (by repeat (first | (with_reducible first | exact HB.out | apply fa_ | apply ca_ | apply ga_) | exact HB.out)))); have n4_ := ba_.mk (gb_ (by repeat (first | (with_reducible first | exact HB.out | apply fa_ | apply ca_ | apply ga_) | exact HB.out)) hb); clear HO105; clear HO109; clear HO114; clear HB; have HO105 := n0_; have HO109 := n1_; have HO114 := n2_; have HO120 := n3_; have HB := n4_; clear n0_ n1_ n2_ n3_ n4_; clear hb ho22; obtain ⟨Ao23, co23, eo23⟩ := Kd.fc_ HO114.out; subst eo23; obtain ⟨Ao24, co24, eo24⟩ := Kd.fc_ HO120.out; subst eo24) | (go_at_call 29; (with_reducible refine (aa_.calls k _ _ t110 _ _ y118 t121 _ ?side1 ?side2 ?side3 ?side4 A13.out).mono ?_); (case side1 => repeat (first | exact (Kd.ta_ HO114.out).2.2 | (with_reducible refine Kd.yb_ ?_ _) | (with_reducible refine Kd.zb_ ?_ _) | (with_reducible refine Kd.jc_ ?_))); (case side2 => exact (Kd.ta_ HO114.out).2.1); (case side3 => repeat (first | exact (Kd.ta_ HO120.out).2.2 | (with_reducible refine Kd.yb_ ?_ _) | (with_reducible refine Kd.zb_ ?_ _) | (with_reducible refine Kd.jc_ ?_))); (case side4 => exact (Kd.ta_ HO120.out).2.1); rintro e w' ⟨rfl, ⟨nd, rfl⟩⟩))
        go_ret
        exact ⟨by first | rfl | (simp [bb_, cb_] <;> rfl) | (simp [*, bb_, cb_] <;> rfl), by repeat (first | (with_reducible first | exact HB.out | apply fa_ | apply ca_ | apply ga_) | exact HB.out)⟩
       ·rw [if_neg c12] at H
        have c12b0 : (t111 == 0) = false := beq_eq_false_iff_ne.mpr c12
        have c12b1 : (t111 != 0) = true := bne_iff_ne.mpr c12
        exact absurd ((Option.some.inj H).trans HRT.out) (by decide)
      ·rw [if_neg c11] at H
       have c11b0 : (t112 == 0) = false := beq_eq_false_iff_ne.mpr c11
       have c11b1 : (t112 != 0) = true := bne_iff_ne.mpr c11
       exact absurd ((Option.some.inj H).trans HRT.out) (by decide)
     ·replace c10 := Bool.eq_false_iff.mpr c10
      subst c10
      have H1 : (some false) = some r := by rw [if_neg (show ¬ (false = true) by decide)] at H; exact H
      clear H
      have H := H1
      clear H1
      exact absurd ((Option.some.inj H).trans HRT.out) (by decide)
    ·rw [if_neg c8] at H
     have c8b0 : ((t106.length : Int) == 8) = false := beq_eq_false_iff_ne.mpr c8
     try have c8b9 := eq_false (beq_eq_false_iff_ne.mp c8b0)
     have c8b1 : ((t106.length : Int) != 8) = true := bne_iff_ne.mpr c8
     exact absurd ((Option.some.inj H).trans HRT.out) (by decide)
   ·rw [if_neg c7] at H
    have c7b0 : (t107 == 0) = false := beq_eq_false_iff_ne.mpr c7
    have c7b1 : (t107 != 0) = true := bne_iff_ne.mpr c7
    exact absurd ((Option.some.inj H).trans HRT.out) (by decide)
  ·rw [if_neg c6] at H
   have c6b0 : (t116 == 18) = false := beq_eq_false_iff_ne.mpr c6
   have c6b1 : (t116 != 18) = true := bne_iff_ne.mpr c6
   exact absurd ((Option.some.inj H).trans HRT.out) (by decide)
 ·rw [if_neg c4] at H
  have c4b0 : (t115 == 5) = false := beq_eq_false_iff_ne.mpr c4
  have c4b1 : (t115 != 5) = true := bne_iff_ne.mpr c4
  exact absurd ((Option.some.inj H).trans HRT.out) (by decide)
end Go.Proofs.Ytpkhgapifnjbeaa.Y
end
section
namespace Go.Proofs.Ytpkhgapifnjbeaa.Y
open Go.RowKit Go.Proofs.Ytpkhgapifnjbeaa.G Go.Proofs.Ytpkhgapifnjbeaa.Rs Go.Proofs.YtpkhgapifnjbeaaW.PrintWords Go.Proofs.YtpkhgapifnjbeaaW.PrintLast Go.Proofs.YtpkhgapifnjbeaaW.PrintMore
attribute [local go_sem] dd_ fd_ rd_ sd_ uc_ vc_ ed_ gd_
set_option linter.unusedVariables false
set_option linter.unusedSimpArgs false
def ia_ (w0 W : World) (g : Nat) (f0 : List Int) (f1 : Int) : Prop := ∃ A0 c0, W.heap[g]? = some (.cells #[.slice A0 f0.length c0, .int .i64 f1] 48 (0, 0)) ∧ w0.heap.size ≤ g ∧ Kd.C (Kd.int .i64) w0 A0 f0.length f0
theorem ia_.grown {w0 W : World} {g : Nat} {f0 : List Int} {f1 : Int} {W1 : World} {row : Option Nat} (h : ia_ w0 W g f0 f1) (hw : W.grownBy W1 row) (hne : some g ≠ row) : ia_ w0 W1 g f0 f1 := by
 obtain ⟨A0, c0, hb, hg, hr0⟩ := h
 exact ⟨A0, c0, bi_ hb hw hne, hg, hr0⟩
theorem ia_.kept {w0 W : World} {g : Nat} {f0 : List Int} {f1 : Int} {W1 : World} {S : Nat → Prop} (h : ia_ w0 W g f0 f1) (hk : Kept W W1 S) (hne : ¬ S g) : ia_ w0 W1 g f0 f1 := by
 obtain ⟨A0, c0, hb, hg, hr0⟩ := h
 exact ⟨A0, c0, zi_ hb hk hne, hg, hr0⟩
theorem ia_.below {w0 W : World} {g : Nat} {f0 : List Int} {f1 : Int} {W1 : World} (h : ia_ w0 W g f0 f1) (hw : Below W.heap.size W W1) : ia_ w0 W1 g f0 f1 := h.grown (ef_ hw none) (by simp)
theorem ia_.alloc {w0 W : World} {g : Nat} {f0 : List Int} {f1 : Int} (h : ia_ w0 W g f0 f1) (o : Obj) : ia_ w0 (W.alloc o) g f0 f1 := h.below (fa_ (Below.refl _ _) o)
theorem ia_.drewN {w0 W : World} {g : Nat} {f0 : List Int} {f1 : Int} (h : ia_ w0 W g f0 f1) (m : Nat) : ia_ w0 (W.drewN m) g f0 f1 := h
theorem ia_.drew {w0 W : World} {g : Nat} {f0 : List Int} {f1 : Int} (h : ia_ w0 W g f0 f1) : ia_ w0 W.drew g f0 f1 := h
theorem ia_.at_ {w0 W : World} {g : Nat} {f0 : List Int} {f1 : Int} {w' : World} {m : Nat} (hq : W.drewN m = w') (h : ia_ w0 W g f0 f1) : ia_ w0 w' g f0 f1 := by subst hq; exact ia_.drewN h m
theorem ia_.apart {w0 W : World} {g : Nat} {f0 : List Int} {f1 : Int} {α : Type} {d : Kd α} {e : Nat} {base : Nat} {ok : Nat → Prop} {v : Value} {xs : List α} (h : ia_ w0 W g f0 f1) (ho : d.R e W base ok v xs) (ht : ∀ q, q ∈ e :: d.E → q ≠ 48) : d.R e W base (fun k => ok k ∧ k ≠ g) v xs := by
 obtain ⟨A0, c0, hb, hg, hr0⟩ := h
 exact Kd.gj_ ho hb ht
theorem ia_.fe_ {w0 W : World} {g : Nat} {f0 : List Int} {f1 : Int} {α : Type} {d : Kd α} {e : Nat} {base : Nat} {ok : Nat → Prop} {v : Value} {xs : List α} (h : ia_ w0 W g f0 f1) (ho : d.R e W base ok v xs) (ht : e ≠ 48) : some g ≠ v.ownBlock := by
 obtain ⟨A0, c0, hb, hg, hr0⟩ := h
 exact Kd.R_ne ho hb ht
theorem ia_.lt {w0 W : World} {g : Nat} {f0 : List Int} {f1 : Int} (h : ia_ w0 W g f0 f1) : g < W.heap.size := by
 obtain ⟨A0, c0, hb, hg, hr0⟩ := h
 exact qj_ hb
theorem ia_.ge {w0 W : World} {g : Nat} {f0 : List Int} {f1 : Int} (h : ia_ w0 W g f0 f1) : w0.heap.size ≤ g := by
 obtain ⟨A0, c0, hb, hg, hr0⟩ := h
 exact hg
theorem ia_.far {w0 W : World} {g : Nat} {f0 : List Int} {f1 : Int} {p : Addr} (h : ia_ w0 W g f0 f1) (hne : g ≠ p.block) (u : Value) : ia_ w0 (W.setCell p u) g f0 f1 := by
 obtain ⟨A0, c0, hb, hg, hr0⟩ := h
 exact ⟨A0, c0, vr_ hb hne u, hg, hr0⟩
theorem jf_ {W : World} {g : Nat} {A0 : Option Addr} {c0 : Nat} {f0 : List Int} {f1 : Int} (h : W.heap[g]? = some (.cells #[.slice A0 f0.length c0, .int .i64 f1] 48 (0, 0))) : W.cell? ⟨g, 0, none⟩ = some (.slice A0 f0.length c0) := (jh_ h 0).trans rfl
theorem kf_ {W : World} {g : Nat} {A0 : Option Addr} {c0 : Nat} {f0 : List Int} {f1 : Int} (h : W.heap[g]? = some (.cells #[.slice A0 f0.length c0, .int .i64 f1] 48 (0, 0))) : W.cell? ⟨g, 1, none⟩ = some (.int .i64 f1) := (jh_ h 1).trans rfl
theorem ia_.ic_ {w0 W : World} {g : Nat} {f0 : List Int} {f1 : Int} (h : ia_ w0 W g f0 f1) (x : Int) : ia_ w0 (W.setCell ⟨g, 1, none⟩ (.int .i64 x)) g f0 x := by
 obtain ⟨A0, c0, hb, hg, hr0⟩ := h
 exact ⟨A0, c0, by simpa using zk_ hb 1 (.int .i64 x), hg, hr0⟩
def sb_.f (l0 : List Int) : Option (List Int × Int) := if (l0.length : Int) > 600 then (if 600 ≤ (l0.length : Int) then (some (l0.take 600, 0)) else (none)) else (some (l0, 0))
set_option maxHeartbeats 8000000 in
set_option maxRecDepth 100000 in
theorem sb_.calls (A0 : Option Addr) (c0 : Nat) (l0 : List Int) (r1 : List Int) (r2 : Int) (w0 w : World) (hB : Below w0.heap.size w0 w) (hr0 : Kd.C (Kd.int .i64) w0 A0 l0.length l0) (hc0 : l0.length ≤ c0) (h : sb_.f l0 = some (r1, r2)) :
  Calls Try.prog 22 #[.slice A0 l0.length c0] w fun e w' => ∃ g_ : Nat, e = .returned (.pointer (some ⟨g_, 0, none⟩)) ∧ ia_ w0 w' g_ r1 r2 ∧ Below w0.heap.size w0 w' ∧ Below w.heap.size w w' := by
 have hu48 := Try.underlying48
 have HR0 := ba_.mk hr0
 have HC0 := ba_.mk hc0
 clear hr0 hc0
 have HBW := ba_.mk (Below.refl w.heap.size w)
 have HW0 := ba_.mk hB.size
 have HB := ba_.mk hB
 clear hB
 have H : (if (l0.length : Int) > 600 then (if 600 ≤ (l0.length : Int) then (some (l0.take 600, 0)) else (none)) else (some (l0, 0))) = some (r1, r2) := h
 clear h
 by_cases c2 : (l0.length : Int) > 600
 ·rw [if_pos c2] at H
  have c2b0 : decide (600 < (l0.length : Int)) = true := decide_eq_true c2
  have c2b1 : decide (600 < l0.length) = true := decide_eq_true (by omega)
  clear c2
  by_cases c3 : 600 ≤ (l0.length : Int)
  ·rw [if_pos c3] at H
   have c3b0 := eq_true c3
   have c3b1 : decide (600 ≤ (l0.length : Int)) = true := decide_eq_true c3
   clear c3
   simp only [Option.some.injEq, Prod.mk.injEq] at H
   obtain ⟨rfl, rfl⟩ := H
   obtain ⟨i04, hi04, _, hsz4, _⟩ := info_parts te_
   obtain ⟨hcut4, hA4, hC4⟩ := hf_ (P := Try.prog) (Value.int .i64) 0 27 3 .i64 Try.underlying27 hi04 hsz4 A0 c0 l0 600 (by omega) (of_decide_eq_true (by first | (with_reducible assumption) | assumption)) HC0.out
   have HR157 := ba_.mk (Kd.ue_ (h1 := fun _ => rfl) (hA4 _ (Kd.xf_ HR0.out)))
   have HC157 := ba_.mk hC4
   clear hA4 hC4 hi04 hsz4
   go_enter Try.func22, Try.ntmps22
   go_wp2_with (first | ((with_reducible refine yd_ (N := 10) rfl ?_); refine gg_ ?hg (N := 10) ?hd (cs := #[.slice A0 (l0.take 600).length c0, .int .i64 0]) (t := 48) ?hr ?_; (case hd => rfl); (case hg => rfl); (case hr => first | (go_simp; done) | (go_simp; rfl)); intro gb158 hg w5 hbox hb; have n0_ := ba_.mk (gb_ HBW.out hb); have n1_ := ba_.mk (gb_ (by repeat (first | (with_reducible first | exact HB.out | apply fa_ | apply ca_ | apply ga_) | exact HB.out)) hb); have n2_ := ba_.mk (hbox); have n3_ := ba_.mk ((by rw [hg]; exact (eb_ (by repeat (first | (with_reducible first | exact HBW.out | apply fa_ | apply ca_ | apply ga_) | exact HBW.out))) : w.heap.size ≤ gb158)); have n4_ := ba_.mk ((Nat.le_trans HW0.out (by rw [hg]; exact (eb_ (by repeat (first | (with_reducible first | exact HBW.out | apply fa_ | apply ca_ | apply ga_) | exact HBW.out))) : w.heap.size ≤ gb158) : w0.heap.size ≤ gb158)); clear HBW; clear HB; have HBW := n0_; have HB := n1_; have BK158 := n2_; have GW158 := n3_; have GE158 := n4_; clear n0_ n1_ n2_ n3_ n4_; clear hb hbox hg))
   go_ret
   exact ⟨_, rfl, (show ia_ w0 _ gb158 (l0.take 600) 0 from ⟨_, _, by (with_reducible repeat (first | refine fg_ ?_ _ | refine kh_ ?_ | refine eg_ ?_ _)); exact BK158.out, GE158.out, HR157.out⟩), by repeat (first | (with_reducible first | exact HB.out | apply fa_ | apply ca_ | apply ga_ | refine qa_ ?_ GE158.out) | exact HB.out), by repeat (first | (with_reducible first | exact HBW.out | apply fa_ | apply ca_ | apply ga_ | refine qa_ ?_ GW158.out) | exact HBW.out)⟩
  ·rw [if_neg c3] at H
   exact absurd H (by simp)
 ·rw [if_neg c2] at H
  have c2b0 : decide (600 < (l0.length : Int)) = false := decide_eq_false c2
  have c2b1 : decide (600 < l0.length) = false := decide_eq_false (by omega)
  clear c2
  simp only [Option.some.injEq, Prod.mk.injEq] at H
  obtain ⟨rfl, rfl⟩ := H
  go_enter Try.func22, Try.ntmps22
  go_wp2_with (first | ((with_reducible refine yd_ (N := 10) rfl ?_); refine gg_ ?hg (N := 10) ?hd (cs := #[.slice A0 l0.length c0, .int .i64 0]) (t := 48) ?hr ?_; (case hd => rfl); (case hg => rfl); (case hr => first | (go_simp; done) | (go_simp; rfl)); intro gb159 hg w6 hbox hb; have n0_ := ba_.mk (gb_ HBW.out hb); have n1_ := ba_.mk (gb_ (by repeat (first | (with_reducible first | exact HB.out | apply fa_ | apply ca_ | apply ga_) | exact HB.out)) hb); have n2_ := ba_.mk (hbox); have n3_ := ba_.mk ((by rw [hg]; exact (eb_ (by repeat (first | (with_reducible first | exact HBW.out | apply fa_ | apply ca_ | apply ga_) | exact HBW.out))) : w.heap.size ≤ gb159)); have n4_ := ba_.mk ((Nat.le_trans HW0.out (by rw [hg]; exact (eb_ (by repeat (first | (with_reducible first | exact HBW.out | apply fa_ | apply ca_ | apply ga_) | exact HBW.out))) : w.heap.size ≤ gb159) : w0.heap.size ≤ gb159)); clear HBW; clear HB; have HBW := n0_; have HB := n1_; have BK159 := n2_; have GW159 := n3_; have GE159 := n4_; clear n0_ n1_ n2_ n3_ n4_; clear hb hbox hg))
  go_ret
  exact ⟨_, rfl, (show ia_ w0 _ gb159 l0 0 from ⟨_, _, by (with_reducible repeat (first | refine fg_ ?_ _ | refine kh_ ?_ | refine eg_ ?_ _)); exact BK159.out, GE159.out, HR0.out⟩), by repeat (first | (with_reducible first | exact HB.out | apply fa_ | apply ca_ | apply ga_ | refine qa_ ?_ GE159.out) | exact HB.out), by repeat (first | (with_reducible first | exact HBW.out | apply fa_ | apply ca_ | apply ga_ | refine qa_ ?_ GW159.out) | exact HBW.out)⟩
def lb_.f (s0_0 : List Int) (s0_1 : Int) : Option (Int × Int) := if s0_1 ≥ (s0_0.length : Int) then (some (0, s0_1)) else (if 0 ≤ (wrap64 ((wrap64 (s0_1 + 1)) - 1)) then (if (wrap64 ((wrap64 (s0_1 + 1)) - 1)) < (s0_0.length : Int) then (some (rd s0_0 (wrap64 ((wrap64 (s0_1 + 1)) - 1)), wrap64 (s0_1 + 1))) else (none)) else (none))
set_option maxHeartbeats 8000000 in
set_option maxRecDepth 100000 in
theorem lb_.calls (g : Nat) (s0_0 : List Int) (s0_1 : Int) (r1 : Int) (r2 : Int) (w0 w : World) (hI : ia_ w0 w g s0_0 s0_1) (hB : Below w0.heap.size w0 w) (h : lb_.f s0_0 s0_1 = some (r1, r2)) :
  Calls Try.prog 42 #[.pointer (some ⟨g, 0, none⟩)] w fun e w' => e = .returned (.int .i64 r1) ∧ ia_ w0 w' g s0_0 r2 ∧ Below w0.heap.size w0 w' ∧ xa_ w w' g none := by
 have HI0 := ba_.mk hI
 have HK := ba_.mk (xa_.refl w g none)
 have HL := ba_.mk hB.size
 clear hI
 have HW0 := ba_.mk hB.size
 have HB := ba_.mk hB
 clear hB
 have H : (if s0_1 ≥ (s0_0.length : Int) then (some (0, s0_1)) else (if 0 ≤ (wrap64 ((wrap64 (s0_1 + 1)) - 1)) then (if (wrap64 ((wrap64 (s0_1 + 1)) - 1)) < (s0_0.length : Int) then (some (rd s0_0 (wrap64 ((wrap64 (s0_1 + 1)) - 1)), wrap64 (s0_1 + 1))) else (none)) else (none))) = some (r1, r2) := h
 clear h
 by_cases c2 : s0_1 ≥ (s0_0.length : Int)
 ·rw [if_pos c2] at H
  have c2b0 : decide ((s0_0.length : Int) ≤ s0_1) = true := decide_eq_true c2
  clear c2
  simp only [Option.some.injEq, Prod.mk.injEq] at H
  obtain ⟨rfl, rfl⟩ := H
  obtain ⟨ASz3_0, cSz3_0, HGz3, hgz3, HSz3_0⟩ := HI0.out
  have hcz3_0 := jf_ HGz3
  have hcz3_1 := kf_ HGz3
  have hfz3_1 := nf_ HGz3 1
  clear HGz3 hgz3
  go_enter Try.func42, Try.ntmps42
  go_wp2
  repeat (go_quiet (fail); try go_wp2)
  go_ret
  exact ⟨by first | rfl | (simp [bb_, cb_] <;> rfl) | (simp [*, bb_, cb_] <;> rfl), by repeat (first | (with_reducible first | exact HI0.out | apply ia_.alloc | apply ia_.drewN | apply ia_.drew | apply ia_.ic_) | exact HI0.out), by repeat (first | (with_reducible first | exact HB.out | apply fa_ | apply ca_ | apply ga_ | refine qa_ ?_ (ia_.ge HI0.out)) | exact HB.out), by repeat (first | (with_reducible first | exact HK.out | apply xa_.set_ | apply kb_ | apply rb_ | apply jb_) | exact HK.out)⟩
 ·rw [if_neg c2] at H
  have c2b0 : decide ((s0_0.length : Int) ≤ s0_1) = false := decide_eq_false c2
  clear c2
  obtain ⟨ji4, hji4⟩ : ∃ j_ : Int, (wrap64 ((wrap64 (s0_1 + 1)) - 1)) = j_ := ⟨_, rfl⟩
  replace H : (if 0 ≤ (ji4) then (if (ji4) < (s0_0.length : Int) then (some (rd s0_0 (ji4), wrap64 (s0_1 + 1))) else (none)) else (none)) = some (r1, r2) := by first | (rw [hji4] at H; exact H) | (simp only [hji4] at H ⊢; exact H)
  have hji4w : (IntKind.i64.wrap ((wrap64 (s0_1 + 1)) - 1)) = ji4 := (gc_ _).trans hji4
  by_cases c5 : 0 ≤ (ji4)
  ·rw [if_pos c5] at H
   have c5b0 : decide (0 ≤ (ji4)) = true := decide_eq_true c5
   clear c5
   by_cases c6 : (ji4) < (s0_0.length : Int)
   ·rw [if_pos c6] at H
    have c6b0 : decide ((ji4) < (s0_0.length : Int)) = true := decide_eq_true c6
    clear c6
    simp only [Option.some.injEq, Prod.mk.injEq] at H
    obtain ⟨rfl, rfl⟩ := H
    obtain ⟨ASz7_0, cSz7_0, HGz7, hgz7, HSz7_0⟩ := HI0.out
    have hcz7_0 := jf_ HGz7
    have hcz7_1 := kf_ HGz7
    have hfz7_1 := nf_ HGz7 1
    clear HGz7 hgz7
    have p160 : 0 ≤ ((ji4) : Int) := of_decide_eq_true (by first | (with_reducible assumption) | assumption)
    have q160 : (ji4) < (s0_0.length : Int) := of_decide_eq_true (by first | (with_reducible assumption) | assumption)
    obtain ⟨ad160, e160, hx160_0⟩ := Kd.nd_ HSz7_0 (ji4) p160 q160
    cases e160
    have hn160_0 : ad160.block ≠ g := Nat.ne_of_lt (Nat.lt_of_lt_of_le (by have := World.block_lt_of_cell? _ _ hx160_0; first | rwa [ae_] at this | exact this) (ia_.ge HI0.out))
    replace hx160_0 := rf_ HB.out hx160_0
    replace hx160_0 := (cell_far (p := ⟨g, 1, none⟩) (by first | (rw [ae_]; exact hn160_0) | (show (Addr.add _ _).block ≠ _; rw [ae_]; exact hn160_0) | exact hn160_0) (.int .i64 (wrap64 (s0_1 + 1)))).trans hx160_0
    (try have hy160_0 := fun (n_ : Nat) => (show (((w.drewN n_).setCell ⟨g, 1, none⟩ (.int .i64 (wrap64 (s0_1 + 1))))).cell? _ = some _ from hx160_0))
    clear hn160_0
    replace p160 := eq_true p160
    replace q160 := eq_true q160
    go_enter Try.func42, Try.ntmps42
    go_wp2
    repeat (go_quiet (fail); try go_wp2)
    go_ret
    exact ⟨by first | rfl | (simp [bb_, cb_] <;> rfl) | (simp only [← hji4]; first | rfl | (simp [bb_, cb_] <;> rfl)) | (simp [*, bb_, cb_] <;> rfl), by repeat (first | (with_reducible first | exact HI0.out | apply ia_.alloc | apply ia_.drewN | apply ia_.drew | apply ia_.ic_) | exact HI0.out), by repeat (first | (with_reducible first | exact HB.out | apply fa_ | apply ca_ | apply ga_ | refine qa_ ?_ (ia_.ge HI0.out)) | exact HB.out), by repeat (first | (with_reducible first | exact HK.out | apply xa_.set_ | apply kb_ | apply rb_ | apply jb_) | exact HK.out)⟩
   ·rw [if_neg c6] at H
    exact absurd H (by simp)
  ·rw [if_neg c5] at H
   exact absurd H (by simp)
def na_.f (s0_0 : List Int) (s0_1 : Int) (a1 : Int) : Option (Int × Int) := (lb_.f s0_0 s0_1).bind fun bt161 => ((ab_.f bt161.1 a1).bind fun t163 => (some (t163, bt161.2)))
set_option maxHeartbeats 8000000 in
set_option maxRecDepth 100000 in
theorem na_.calls (g : Nat) (s0_0 : List Int) (s0_1 : Int) (a1 : Int) (r1 : Int) (r2 : Int) (w0 w : World) (hI : ia_ w0 w g s0_0 s0_1) (hB : Below w0.heap.size w0 w) (h : na_.f s0_0 s0_1 a1 = some (r1, r2)) :
  Calls Try.prog 26 #[.pointer (some ⟨g, 0, none⟩), .int .i64 a1] w fun e w' => e = .returned (.int .i64 r1) ∧ ia_ w0 w' g s0_0 r2 ∧ Below w0.heap.size w0 w' ∧ xa_ w w' g none := by
 have HI0 := ba_.mk hI
 have HK := ba_.mk (xa_.refl w g none)
 have HL := ba_.mk hB.size
 clear hI
 have HW0 := ba_.mk hB.size
 have HB := ba_.mk hB
 clear hB
 have H : ((lb_.f s0_0 s0_1).bind fun bt161 => ((ab_.f bt161.1 a1).bind fun t163 => (some (t163, bt161.2)))) = some (r1, r2) := h
 clear h
 replace H := Option.bind_eq_some_iff.mp H
 obtain ⟨⟨t161, t162⟩, A30, H⟩ := H
 replace H : ((ab_.f t161 a1).bind fun t163 => (some (t163, t162))) = some (r1, r2) := H
 have A3 := ba_.mk A30
 clear A30
 replace H := Option.bind_eq_some_iff.mp H
 obtain ⟨t163, A40, H⟩ := H
 replace H : (some (t163, t162)) = some (r1, r2) := H
 have A4 := ba_.mk A40
 clear A40
 simp only [Option.some.injEq, Prod.mk.injEq] at H
 obtain ⟨rfl, rfl⟩ := H
 go_enter Try.func26, Try.ntmps26
 go_wp2_with (first | ((with_reducible refine ua_ (f := 42) rfl ?_); refine hc_ (some 6) rfl rfl Try.func42 (by kernel_rfl) rfl #[.pointer (some ⟨g, 0, none⟩)] rfl (by (try simp only [List.map_toArray, List.map_cons, List.map_nil]); first | done | rfl | (simp only [List.length_drop, List.length_take]; rfl)) ?_; (with_reducible refine (lb_.calls g s0_0 s0_1 t161 t162 w0 _ ?side1 ?side2 A3.out).mono ?_); (case side1 => repeat (first | (with_reducible first | exact HI0.out | apply ia_.alloc | apply ia_.drewN | apply ia_.drew | apply ia_.ic_) | exact HI0.out)); (case side2 => repeat (first | (with_reducible first | exact HB.out | apply fa_ | apply ca_ | apply ga_ | refine qa_ ?_ (ia_.ge HI0.out)) | exact HB.out)); rintro e w5 ⟨rfl, hi, hb, hk⟩; refine ⟨_, rfl, ?_⟩; have n0_ := ba_.mk (xa_.trans (by repeat (first | (with_reducible first | exact HK.out | apply xa_.set_ | apply kb_ | apply rb_ | apply jb_) | exact HK.out)) hk (.inl rfl)); have n1_ := ba_.mk (hb); have n2_ := ba_.mk (hi); clear HK; clear HB; clear HI0; have HK := n0_; have HB := n1_; have HI0 := n2_; clear n0_ n1_ n2_; (try clear hb); (try clear hb2); (try clear hk); (try clear hi)) | ((with_reducible refine ua_ (f := 14) rfl ?_); refine hc_ (some 8) rfl rfl Try.func14 (by kernel_rfl) rfl #[.int .i64 t161, .int .i64 a1] rfl (by (try simp only [List.map_toArray, List.map_cons, List.map_nil]); first | done | rfl | (simp only [List.length_drop, List.length_take]; rfl)) ?_; (with_reducible refine (ab_.calls t161 a1 t163 _ A4.out).mono ?_); rintro e w' ⟨rfl, ⟨nd, rfl⟩⟩; refine ⟨_, rfl, ?_⟩))
 go_ret
 exact ⟨by first | rfl | (simp [bb_, cb_] <;> rfl) | (simp [*, bb_, cb_] <;> rfl), by repeat (first | (with_reducible first | exact HI0.out | apply ia_.alloc | apply ia_.drewN | apply ia_.drew | apply ia_.ic_) | exact HI0.out), by repeat (first | (with_reducible first | exact HB.out | apply fa_ | apply ca_ | apply ga_ | refine qa_ ?_ (ia_.ge HI0.out)) | exact HB.out), by repeat (first | (with_reducible first | exact HK.out | apply xa_.set_ | apply kb_ | apply rb_ | apply jb_) | exact HK.out)⟩
def oa_.f (s0_0 : List Int) (s0_1 : Int) (a1 : Int) (a2 : Int) : Option (Int × Int) := (na_.f s0_0 s0_1 (wrap64 ((wrap64 (a2 - a1)) + 1))).bind fun bt164 => (some (wrap64 (a1 + bt164.1), bt164.2))
set_option maxHeartbeats 8000000 in
set_option maxRecDepth 100000 in
theorem oa_.calls (g : Nat) (s0_0 : List Int) (s0_1 : Int) (a1 : Int) (a2 : Int) (r1 : Int) (r2 : Int) (w0 w : World) (hI : ia_ w0 w g s0_0 s0_1) (hB : Below w0.heap.size w0 w) (h : oa_.f s0_0 s0_1 a1 a2 = some (r1, r2)) :
  Calls Try.prog 31 #[.pointer (some ⟨g, 0, none⟩), .int .i64 a1, .int .i64 a2] w fun e w' => e = .returned (.int .i64 r1) ∧ ia_ w0 w' g s0_0 r2 ∧ Below w0.heap.size w0 w' ∧ xa_ w w' g none := by
 have HI0 := ba_.mk hI
 have HK := ba_.mk (xa_.refl w g none)
 have HL := ba_.mk hB.size
 clear hI
 have HW0 := ba_.mk hB.size
 have HB := ba_.mk hB
 clear hB
 have H : ((na_.f s0_0 s0_1 (wrap64 ((wrap64 (a2 - a1)) + 1))).bind fun bt164 => (some (wrap64 (a1 + bt164.1), bt164.2))) = some (r1, r2) := h
 clear h
 replace H := Option.bind_eq_some_iff.mp H
 obtain ⟨⟨t164, t165⟩, A40, H⟩ := H
 replace H : (some (wrap64 (a1 + t164), t165)) = some (r1, r2) := H
 have A4 := ba_.mk A40
 clear A40
 simp only [Option.some.injEq, Prod.mk.injEq] at H
 obtain ⟨rfl, rfl⟩ := H
 go_enter Try.func31, Try.ntmps31
 go_wp2_with (first | ((with_reducible refine ua_ (f := 26) rfl ?_); refine hc_ (some 13) rfl rfl Try.func26 (by kernel_rfl) rfl #[.pointer (some ⟨g, 0, none⟩), .int .i64 (wrap64 ((wrap64 (a2 - a1)) + 1))] rfl (by (try simp only [List.map_toArray, List.map_cons, List.map_nil]); first | done | rfl | (simp only [List.length_drop, List.length_take]; rfl)) ?_; (with_reducible refine (na_.calls g s0_0 s0_1 (wrap64 ((wrap64 (a2 - a1)) + 1)) t164 t165 w0 _ ?side1 ?side2 A4.out).mono ?_); (case side1 => repeat (first | (with_reducible first | exact HI0.out | apply ia_.alloc | apply ia_.drewN | apply ia_.drew | apply ia_.ic_) | exact HI0.out)); (case side2 => repeat (first | (with_reducible first | exact HB.out | apply fa_ | apply ca_ | apply ga_ | refine qa_ ?_ (ia_.ge HI0.out)) | exact HB.out)); rintro e w5 ⟨rfl, hi, hb, hk⟩; refine ⟨_, rfl, ?_⟩; have n0_ := ba_.mk (xa_.trans (by repeat (first | (with_reducible first | exact HK.out | apply xa_.set_ | apply kb_ | apply rb_ | apply jb_) | exact HK.out)) hk (.inl rfl)); have n1_ := ba_.mk (hb); have n2_ := ba_.mk (hi); clear HK; clear HB; clear HI0; have HK := n0_; have HB := n1_; have HI0 := n2_; clear n0_ n1_ n2_; (try clear hb); (try clear hb2); (try clear hk); (try clear hi)))
 go_ret
 exact ⟨by first | rfl | (simp [bb_, cb_] <;> rfl) | (simp [*, bb_, cb_] <;> rfl), by repeat (first | (with_reducible first | exact HI0.out | apply ia_.alloc | apply ia_.drewN | apply ia_.drew | apply ia_.ic_) | exact HI0.out), by repeat (first | (with_reducible first | exact HB.out | apply fa_ | apply ca_ | apply ga_ | refine qa_ ?_ (ia_.ge HI0.out)) | exact HB.out), by repeat (first | (with_reducible first | exact HK.out | apply xa_.set_ | apply kb_ | apply rb_ | apply jb_) | exact HK.out)⟩
end Go.Proofs.Ytpkhgapifnjbeaa.Y
end
section
namespace Go.Proofs.Ytpkhgapifnjbeaa.Y
open Go.RowKit Go.Proofs.Ytpkhgapifnjbeaa.G Go.Proofs.Ytpkhgapifnjbeaa.Rs Go.Proofs.YtpkhgapifnjbeaaW.PrintWords Go.Proofs.YtpkhgapifnjbeaaW.PrintLast Go.Proofs.YtpkhgapifnjbeaaW.PrintMore
attribute [local go_sem] dd_ fd_ rd_ sd_ uc_ vc_ ed_ gd_
set_option linter.unusedVariables false
set_option linter.unusedSimpArgs false
def ja_.l0 : Nat → Int → List Int → Int → List Int → Int → Option (List Int × Int)
 | 0, _, _, _, _, _ => none
 | k + 1, x1, x5, x6, x1000, x1001 => if x6 < x1 then ((na_.f x1000 x1001 (wrap64 (x6 + 1))).bind fun bt214 => (if 0 ≤ bt214.1 then (if bt214.1 ≤ (x5.length : Int) then ((some (x5.take (bt214.1 : Int).toNat : List Int)).bind fun y216 => (if ([] : List Int).length + y216.length < 17592186044416 then ((some (([] : List Int) ++ y216 : List Int)).bind fun y220 => (if y220.length < 17592186044416 then ((some (y220 ++ [x6] : List Int)).bind fun y223 => ((some (x5.drop (bt214.1 : Int).toNat : List Int)).bind fun y226 => (if y223.length + y226.length < 17592186044416 then (ja_.l0 k x1 (y223 ++ y226) (wrap64 (x6 + 1)) x1000 bt214.2) else (none)))) else (none))) else (none))) else (none)) else (none))) else (some (x5, x1001))
def ja_.f (k : Nat) (s0_0 : List Int) (s0_1 : Int) (a1 : Int) : Option (List Int × Int) := ja_.l0 k a1 ([] : List Int) 0 s0_0 s0_1
theorem ja_.xc_ : ∀ k, (∀ y0 y1 y2 y3 y4, LeO (ja_.l0 k y0 y1 y2 y3 y4) (ja_.l0 (k + 1) y0 y1 y2 y3 y4))
 | 0 => fun _ _ _ _ _ r h => by simp [ja_.l0] at h
 | k + 1 => by
  have ih0 := ja_.xc_ k
  ·intro y0 y1 y2 y3 y4
   unfold ja_.l0
   repeat' first
   | (with_reducible exact ih0 _ _ _ _ _)
   | (with_reducible exact LeO.refl _)
   | (with_reducible exact LeO.none _)
   | (with_reducible refine LeO.ite ?_ ?_)
   | (with_reducible refine LeO.bind ?_ (fun _ => ?_))
   | exact ih0 _ _ _ _ _
   | exact LeO.none _
   | refine LeO.ite ?_ ?_
   | refine LeO.bind ?_ (fun _ => ?_)
theorem ja_.mono : ∀ a0 a1 a2 k, LeO (ja_.f k a0 a1 a2) (ja_.f (k + 1) a0 a1 a2) := by
 intro a0 a1 a2 k
 have ih0 := ja_.xc_ k
 unfold ja_.f
 repeat' first
   | (with_reducible exact ih0 _ _ _ _ _)
   | (with_reducible exact LeO.refl _)
   | (with_reducible exact LeO.none _)
   | (with_reducible refine LeO.ite ?_ ?_)
   | (with_reducible refine LeO.bind ?_ (fun _ => ?_))
   | exact ih0 _ _ _ _ _
   | exact LeO.none _
   | refine LeO.ite ?_ ?_
   | refine LeO.bind ?_ (fun _ => ?_)
set_option maxHeartbeats 8000000 in
set_option maxRecDepth 100000 in
theorem ja_.calls (k : Nat) (g : Nat) (s0_0 : List Int) (s0_1 : Int) (a1 : Int) (r1 : List Int) (r2 : Int) (w0 w : World) (hI : ia_ w0 w g s0_0 s0_1) (hB : Below w0.heap.size w0 w) (h : ja_.f k s0_0 s0_1 a1 = some (r1, r2)) :
  Calls Try.prog 49 #[.pointer (some ⟨g, 0, none⟩), .int .i64 a1] w fun e w' => ∃ v0_ : Value, e = .returned (v0_) ∧ Kd.R (Kd.int .i64) 3 w' w.heap.size (fun _ => True) v0_ r1 ∧ ia_ w0 w' g s0_0 r2 ∧ Below w0.heap.size w0 w' ∧ xa_ w w' g none := by
 have HI0 := ba_.mk hI
 have HK := ba_.mk (xa_.refl w g none)
 have HL := ba_.mk hB.size
 clear hI
 have HW0 := ba_.mk hB.size
 have HB := ba_.mk hB
 clear hB
 have H : (ja_.l0 k a1 ([] : List Int) 0 s0_0 s0_1) = some (r1, r2) := h
 clear h
 have H' := ba_.mk H
 clear H
 go_enter Try.func49, Try.ntmps49
 go_wp2
 go_loopg [5, 6] k (fun kq v5 v6 w' => ∃ (x5_1 : List Int) (x6_1 : Int) (x1001_1 : Int), v6 = .int .i64 x6_1 ∧ ba_ (ja_.l0 kq a1 x5_1 x6_1 s0_0 x1001_1 = some (r1, r2)) ∧ ba_ (kq ≤ k) ∧ ba_ (Kd.R (Kd.int .i64) 3 w' w.heap.size (fun _ => True) v5 x5_1) ∧ ba_ (ia_ w0 w' g s0_0 x1001_1) ∧ ba_ (xa_ w w' g none) ∧ ba_ (Below w0.heap.size w0 w'))
 case atStart => exact ⟨(([] : List Int)), (0), (s0_1), (by first | rfl | (simp; done) | (simp [*]; done)), H', ⟨Nat.le_refl _⟩, ⟨by first | exact Kd.uf_ _ _ _ _ _ | exact Kd.mh_ _ _ _ _ _ | exact Kd.ph_ _ _ _ _ _ | exact Kd.nh_ _ _ _ _ _ | exact Kd.oh_ _ _ _ _ _⟩, ⟨by repeat (first | (with_reducible first | exact HI0.out | apply ia_.alloc | apply ia_.drewN | apply ia_.drew | apply ia_.ic_) | exact HI0.out)⟩, ⟨by repeat (first | (with_reducible first | exact HK.out | apply xa_.set_ | apply kb_ | apply rb_ | apply jb_) | exact HK.out)⟩, ⟨by repeat (first | (with_reducible first | exact HB.out | apply fa_ | apply ca_ | apply ga_ | refine qa_ ?_ (ia_.ge HI0.out)) | exact HB.out)⟩⟩
 case round =>
  clear H'
  try clear p2
  obtain ⟨x5_1, x6_1, x1001_1, rfl, HA, HK1, HO_5, HI0, HK, HB⟩ := hrel
  cases gk with
  | zero => exact absurd HA.out (by simp [ja_.l0])
  | succ k1 =>
   have H := HA.out
   clear HA
   simp only [ja_.l0] at H
   by_cases c3 : x6_1 < a1
   ·rw [if_pos c3] at H
    have c3b0 : decide (x6_1 < a1) = true := decide_eq_true c3
    clear c3
    replace H := Option.bind_eq_some_iff.mp H
    obtain ⟨⟨t214, t215⟩, A40, H⟩ := H
    replace H : (if 0 ≤ t214 then (if t214 ≤ (x5_1.length : Int) then ((some (x5_1.take (t214 : Int).toNat : List Int)).bind fun y216 => (if ([] : List Int).length + y216.length < 17592186044416 then ((some (([] : List Int) ++ y216 : List Int)).bind fun y220 => (if y220.length < 17592186044416 then ((some (y220 ++ [x6_1] : List Int)).bind fun y223 => ((some (x5_1.drop (t214 : Int).toNat : List Int)).bind fun y226 => (if y223.length + y226.length < 17592186044416 then (ja_.l0 k1 a1 (y223 ++ y226) (wrap64 (x6_1 + 1)) s0_0 t215) else (none)))) else (none))) else (none))) else (none)) else (none)) = some (r1, r2) := H
    have A4 := ba_.mk A40
    clear A40
    by_cases c5 : 0 ≤ t214
    ·rw [if_pos c5] at H
     have c5b0 := eq_true c5
     have c5b1 : decide (0 ≤ t214) = true := decide_eq_true c5
     clear c5
     by_cases c6 : t214 ≤ (x5_1.length : Int)
     ·rw [if_pos c6] at H
      have c6b0 := eq_true c6
      have c6b1 : decide (t214 ≤ (x5_1.length : Int)) = true := decide_eq_true c6
      clear c6
      obtain ⟨y216, hy216⟩ : ∃ y_ : List Int, y_ = (x5_1.take (t214 : Int).toNat) := ⟨_, rfl⟩
      replace H : (if ([] : List Int).length + y216.length < 17592186044416 then ((some (([] : List Int) ++ y216 : List Int)).bind fun y220 => (if y220.length < 17592186044416 then ((some (y220 ++ [x6_1] : List Int)).bind fun y223 => ((some (x5_1.drop (t214 : Int).toNat : List Int)).bind fun y226 => (if y223.length + y226.length < 17592186044416 then (ja_.l0 k1 a1 (y223 ++ y226) (wrap64 (x6_1 + 1)) s0_0 t215) else (none)))) else (none))) else (none)) = some (r1, r2) := by first | (rw [hy216]; with_reducible exact H) | (have H2_ := (Option.bind_some _ _).symm.trans H; rw [hy216]; with_reducible exact H2_) | (have H2_ := (Option.bind_some _ _).symm.trans H; with_reducible exact H2_) | with_reducible exact H | (rw [hy216]; exact H) | exact H
      have Ny216 := ba_.mk hy216
      clear hy216
      by_cases c7 : ([] : List Int).length + y216.length < 17592186044416
      ·rw [if_pos c7] at H
       have LMc7 := ba_.mk c7
       clear c7
       obtain ⟨y220, hy220⟩ : ∃ y_ : List Int, y_ = (([] : List Int) ++ y216) := ⟨_, rfl⟩
       replace H : (if y220.length < 17592186044416 then ((some (y220 ++ [x6_1] : List Int)).bind fun y223 => ((some (x5_1.drop (t214 : Int).toNat : List Int)).bind fun y226 => (if y223.length + y226.length < 17592186044416 then (ja_.l0 k1 a1 (y223 ++ y226) (wrap64 (x6_1 + 1)) s0_0 t215) else (none)))) else (none)) = some (r1, r2) := by first | (rw [hy220]; with_reducible exact H) | (have H2_ := (Option.bind_some _ _).symm.trans H; rw [hy220]; with_reducible exact H2_) | (have H2_ := (Option.bind_some _ _).symm.trans H; with_reducible exact H2_) | with_reducible exact H | (rw [hy220]; exact H) | exact H
       have Ny220 := ba_.mk hy220
       clear hy220
       by_cases c8 : y220.length < 17592186044416
       ·rw [if_pos c8] at H
        have LMc8 := ba_.mk c8
        clear c8
        obtain ⟨y223, hy223⟩ : ∃ y_ : List Int, y_ = (y220 ++ [x6_1]) := ⟨_, rfl⟩
        replace H : ((some (x5_1.drop (t214 : Int).toNat : List Int)).bind fun y226 => (if y223.length + y226.length < 17592186044416 then (ja_.l0 k1 a1 (y223 ++ y226) (wrap64 (x6_1 + 1)) s0_0 t215) else (none))) = some (r1, r2) := by first | (rw [hy223]; with_reducible exact H) | (have H2_ := (Option.bind_some _ _).symm.trans H; rw [hy223]; with_reducible exact H2_) | (have H2_ := (Option.bind_some _ _).symm.trans H; with_reducible exact H2_) | with_reducible exact H | (rw [hy223]; exact H) | exact H
        have Ny223 := ba_.mk hy223
        clear hy223
        have c9b0 := eq_true (of_decide_eq_true (by first | (with_reducible assumption) | assumption) : 0 ≤ t214)
        have c10b0 := eq_true (of_decide_eq_true (by first | (with_reducible assumption) | assumption) : t214 ≤ (x5_1.length : Int))
        obtain ⟨y226, hy226⟩ : ∃ y_ : List Int, y_ = (x5_1.drop (t214 : Int).toNat) := ⟨_, rfl⟩
        replace H : (if y223.length + y226.length < 17592186044416 then (ja_.l0 k1 a1 (y223 ++ y226) (wrap64 (x6_1 + 1)) s0_0 t215) else (none)) = some (r1, r2) := by first | (rw [hy226]; with_reducible exact H) | (have H2_ := (Option.bind_some _ _).symm.trans H; rw [hy226]; with_reducible exact H2_) | (have H2_ := (Option.bind_some _ _).symm.trans H; with_reducible exact H2_) | with_reducible exact H | (rw [hy226]; exact H) | exact H
        have Ny226 := ba_.mk hy226
        clear hy226
        by_cases c11 : y223.length + y226.length < 17592186044416
        ·rw [if_pos c11] at H
         have LMc11 := ba_.mk c11
         clear c11
         obtain ⟨y230, hy230⟩ : ∃ y_ : List Int, y_ = (y223 ++ y226) := ⟨_, rfl⟩
         replace H : (ja_.l0 k1 a1 y230 (wrap64 (x6_1 + 1)) s0_0 t215) = some (r1, r2) := by first | (rw [hy230]; with_reducible exact H) | (have H2_ := (Option.bind_some _ _).symm.trans H; rw [hy230]; with_reducible exact H2_) | (have H2_ := (Option.bind_some _ _).symm.trans H; with_reducible exact H2_) | with_reducible exact H | (rw [hy230]; exact H) | exact H
         have Ny230 := ba_.mk hy230
         clear hy230
         have H' := ba_.mk H
         clear H
         go_wp2_with (first | ((with_reducible refine ua_ (f := 26) rfl ?_); refine hc_ (some 17) rfl rfl Try.func26 (by kernel_rfl) rfl #[.pointer (some ⟨g, 0, none⟩), .int .i64 (wrap64 (x6_1 + 1))] rfl (by (try simp only [List.map_toArray, List.map_cons, List.map_nil]); first | done | rfl | (simp only [List.length_drop, List.length_take]; rfl)) ?_; (with_reducible refine (na_.calls g s0_0 x1001_1 (wrap64 (x6_1 + 1)) t214 t215 w0 _ ?side1 ?side2 A4.out).mono ?_); (case side1 => repeat (first | (with_reducible first | exact HI0.out | apply ia_.alloc | apply ia_.drewN | apply ia_.drew | apply ia_.ic_) | exact HI0.out)); (case side2 => repeat (first | (with_reducible first | exact HB.out | apply fa_ | apply ca_ | apply ga_ | refine qa_ ?_ (ia_.ge HI0.out)) | exact HB.out)); rintro e w12 ⟨rfl, hi, hb, hk⟩; refine ⟨_, rfl, ?_⟩; have n0_ := ba_.mk (Kd.bc_ (Kd.ne_ (ia_.apart (show ia_ w0 _ g s0_0 x1001_1 from by repeat (first | (with_reducible first | exact HI0.out | apply ia_.alloc | apply ia_.drewN | apply ia_.drew | apply ia_.ic_) | exact HI0.out)) (by (with_reducible repeat (first | apply Kd.la_ | apply Kd.ka_ | apply Kd.ma_)); exact HO_5.out) (by decide)) hk (fun _ h => h.2)) (fun _ h => h.1)); have n1_ := ba_.mk (xa_.trans (by repeat (first | (with_reducible first | exact HK.out | apply xa_.set_ | apply kb_ | apply rb_ | apply jb_) | exact HK.out)) hk (.inl rfl)); have n2_ := ba_.mk (hb); have n3_ := ba_.mk (hi); clear HO_5; clear HK; clear HB; clear HI0; have HO_5 := n0_; have HK := n1_; have HB := n2_; have HI0 := n3_; clear n0_ n1_ n2_ n3_; (try clear hb); (try clear hb2); (try clear hk); (try clear hi); obtain ⟨Ao14, co14, eo14⟩ := Kd.fc_ HO_5.out; subst eo14; have q13 : (t214 : Int) ≤ ((x5_1.length : Int) : Int) := of_decide_eq_true (by first | (with_reducible assumption) | assumption); obtain ⟨i013, hi013, _, hsz13, _⟩ := info_parts te_; have hroom13 : x5_1.length ≤ co14 := (Kd.ta_ HO_5.out).2.1; have hC13 : Kd.C (Kd.int .i64) _ Ao14 x5_1.length x5_1 := (Kd.ta_ HO_5.out).2.2; have hcut13 := pm_ (P := Try.prog) 27 3 .i64 Try.underlying27 hi013 Ao14 x5_1.length co14 t214 (of_decide_eq_true (by first | (with_reducible assumption) | assumption)) q13 hroom13; have hr13 := Kd.ei_ (m := (t214 : Int).toNat) hC13 (by omega); have hy13 : y216.length = (t214 : Int).toNat := (by rw [Ny216.out, List.length_take]; omega); rw [← Ny216.out] at hr13; rw [← hy13] at hcut13; have HR219 := ba_.mk hr13; have HC219 := ba_.mk (show y216.length ≤ co14 from by omega); clear hr13 hC13 hroom13 hi013 hsz13; have KY13 := ba_.mk hy13; clear hy13; have KL13 := ba_.mk (show (t214 : Int).toNat ≤ x5_1.length from by omega); replace q13 := eq_true q13) | ((with_reducible refine hd_ (b := .append) (xs := #[.tmp 18, .tmp 21]) rfl ?_); at_builtin; refine Kd.af_ (Kd.int .i64) w.heap.size rfl (.tmp 18) (.tmp 21) 27 3 (.int .i64 0) 8 rfl Try.underlying27 te_ rfl (by decide) (by omega) (.slice none 0 0) ([] : List Int) y216 _ _ _ (fun k_ => some k_ ≠ (.slice Ao14 x5_1.length co14 : Value).ownBlock) (fun _ => False) rfl rfl ?aO ?aR (fun _ _ h => h) (fun _ h => h.elim) ?aF (Below.refl _ _) ?aS ?aL ?_; (case aR => repeat (first | exact (by repeat (first | (with_reducible exact HR219.out) | (with_reducible refine Kd.yb_ ?_ _) | (with_reducible refine Kd.zb_ ?_ _) | (with_reducible refine Kd.jc_ ?_) | exact HR219.out)) | (with_reducible refine Kd.yb_ ?_ _) | (with_reducible refine Kd.zb_ ?_ _) | (with_reducible refine Kd.jc_ ?_))); (case aF => exact (fun k_ hk => Kd.fresh' (Kd.R_lt (by (with_reducible repeat (first | apply Kd.la_ | apply Kd.ka_ | apply Kd.ma_)); exact HO_5.out)) k_ hk)); (case aO => exact ((Kd.uf_ _ _ _ _ (fun k_ => some k_ ≠ (.slice Ao14 x5_1.length co14 : Value).ownBlock)))); (case aS => exact (we_ (w := w) (g := g) (row := none) (by repeat (first | (with_reducible first | exact HK.out | apply xa_.set_ | apply kb_ | apply rb_ | apply jb_) | exact HK.out)))); (case aL => have := LMc7.out; omega); intro v221 w15 ho hb hg hat; rw [← Ny220.out] at ho; have n0_ := ba_.mk (Kd.wd_ (Kd.sh_ (by (with_reducible repeat (first | apply Kd.la_ | apply Kd.ka_ | apply Kd.ma_)); exact HO_5.out)) hg hat); have n1_ := ba_.mk (ia_.grown (by repeat (first | (with_reducible first | exact HI0.out | apply ia_.alloc | apply ia_.drewN | apply ia_.drew | apply ia_.ic_) | exact HI0.out)) hg (by simp [Value.ownBlock])); have n2_ := ba_.mk (se_ (by repeat (first | (with_reducible first | exact HB.out | apply fa_ | apply ca_ | apply ga_ | refine qa_ ?_ (ia_.ge HI0.out)) | exact HB.out)) HL.out hb); have n3_ := ba_.mk (xa_.trans (by repeat (first | (with_reducible first | exact HK.out | apply xa_.set_ | apply kb_ | apply rb_ | apply jb_) | exact HK.out)) (xa_.mf_ hg g) (.inl (by simp [Value.ownBlock]))); have n4_ := ba_.mk ((show Kd.C (Kd.int .i64) w15 Ao14 y216.length y216 from by rw [Ny216.out]; exact Kd.ei_ (m := (t214 : Int).toNat) ((Kd.ta_ (Kd.wd_ (Kd.sh_ (by (with_reducible repeat (first | apply Kd.la_ | apply Kd.ka_ | apply Kd.ma_)); exact HO_5.out)) hg hat)).2.2) KL13.out)); have n5_ := ba_.mk (ho); clear HO_5; clear HI0; clear HB; clear HK; clear HR219; have HO_5 := n0_; have HI0 := n1_; have HB := n2_; have HK := n3_; have HR219 := n4_; have HO222 := n5_; clear n0_ n1_ n2_ n3_ n4_ n5_; clear ho hb hg hat) | ((with_reducible refine hd_ (b := .append) (xs := #[.tmp 23, .tmp 25]) rfl ?_); at_builtin; refine Kd.qe_ (Kd.int .i64) w.heap.size rfl (.tmp 23) (.tmp 25) 27 3 (.int .i64 0) 8 rfl Try.underlying27 te_ rfl (by decide) (by omega) v221 y220 x6_1 [.int .i64 x6_1] (fun k_ => some k_ ≠ (.slice Ao14 x5_1.length co14 : Value).ownBlock) (fun _ => False) rfl rfl ?aP (fun _ hk => hk.elim) ?aF ?aO (Below.refl _ _) ?aS ?aL ?_; (case aP => exact rfl); (case aF => exact (fun k_ hk => Kd.fresh' (Kd.R_lt (by (with_reducible repeat (first | apply Kd.la_ | apply Kd.ka_ | apply Kd.ma_)); exact HO_5.out)) k_ hk)); (case aO => exact (by (with_reducible repeat (first | apply Kd.la_ | apply Kd.ka_ | apply Kd.ma_)); exact HO222.out)); (case aS => exact (we_ (w := w) (g := g) (row := none) (by repeat (first | (with_reducible first | exact HK.out | apply xa_.set_ | apply kb_ | apply rb_ | apply jb_) | exact HK.out)))); (case aL => have := LMc8.out; omega); intro v224 w16 ho hb hg hat; rw [← Ny223.out] at ho; have n0_ := ba_.mk (Kd.wd_ (ok := (fun _ => True)) (by (with_reducible repeat (first | apply Kd.la_ | apply Kd.ka_ | apply Kd.ma_)); exact HO_5.out) hg hat); have n1_ := ba_.mk (ia_.grown (by repeat (first | (with_reducible first | exact HI0.out | apply ia_.alloc | apply ia_.drewN | apply ia_.drew | apply ia_.ic_) | exact HI0.out)) hg (ia_.fe_ HI0.out HO222.out (by decide))); have n2_ := ba_.mk (se_ (by repeat (first | (with_reducible first | exact HB.out | apply fa_ | apply ca_ | apply ga_ | refine qa_ ?_ (ia_.ge HI0.out)) | exact HB.out)) HL.out hb); have n3_ := ba_.mk (xa_.trans (by repeat (first | (with_reducible first | exact HK.out | apply xa_.set_ | apply kb_ | apply rb_ | apply jb_) | exact HK.out)) (xa_.mf_ hg g) (Kd.eh_ HO222.out)); have n4_ := ba_.mk ((show Kd.C (Kd.int .i64) w16 Ao14 y216.length y216 from by rw [Ny216.out]; exact Kd.ei_ (m := (t214 : Int).toNat) ((Kd.ta_ (Kd.wd_ (ok := (fun _ => True)) (by (with_reducible repeat (first | apply Kd.la_ | apply Kd.ka_ | apply Kd.ma_)); exact HO_5.out) hg hat)).2.2) KL13.out)); have n5_ := ba_.mk (ho); clear HO_5; clear HI0; clear HB; clear HK; clear HR219; clear HO222; have HO_5 := n0_; have HI0 := n1_; have HB := n2_; have HK := n3_; have HR219 := n4_; have HO225 := n5_; clear n0_ n1_ n2_ n3_ n4_ n5_; clear ho hb hg hat; have q17 : (t214 : Int) ≤ ((x5_1.length : Int) : Int) := of_decide_eq_true (by first | (with_reducible assumption) | assumption); obtain ⟨i017, hi017, _, hsz17, _⟩ := info_parts te_; have hroom17 : x5_1.length ≤ co14 := (Kd.ta_ HO_5.out).2.1; have hC17 : Kd.C (Kd.int .i64) _ Ao14 x5_1.length x5_1 := (Kd.ta_ HO_5.out).2.2; have q017 : (0 : Int) ≤ (t214 : Int) := of_decide_eq_true (by first | (with_reducible assumption) | assumption); have hcut17 := oo_ (P := Try.prog) 27 3 .i64 Try.underlying27 hi017 1 hsz17 Ao14 x5_1.length co14 t214 q017 q17; have hr17 := Kd.wn_ (m := (t214 : Int).toNat) (c := co14) hC17 (by omega) hroom17; obtain ⟨A17, hA17⟩ : ∃ A1, A1 = (if co14 = (t214 : Int).toNat then Ao14 else (Ao14 : Option Addr).map (·.add ((t214 : Int).toNat * 1))) := ⟨_, rfl⟩; obtain ⟨c17, hc17⟩ : ∃ c1, c1 = co14 - (t214 : Int).toNat := ⟨_, rfl⟩; have hy17 : y226.length = x5_1.length - (t214 : Int).toNat := (by rw [Ny226.out, List.length_drop] <;> omega); rw [show (x5_1).drop (t214 : Int).toNat = y226 from Ny226.out.symm] at hr17; replace hr17 : Kd.C (Kd.int .i64) _ A17 y226.length y226 := (by rw [hA17]; exact hr17); rw [← hy17, ← hA17, ← hc17] at hcut17; have HR229 := ba_.mk hr17; have HC229 := ba_.mk (show y226.length ≤ c17 from by rw [hy17, hc17]; exact Nat.sub_le_sub_right hroom17 _); clear hr17 hC17 hroom17 hi017 hsz17 hc17; have KY17 := ba_.mk hy17; have KA17 := ba_.mk hA17; clear hy17 hA17; have KL17 := ba_.mk (show (t214 : Int).toNat ≤ x5_1.length from by omega); replace q17 := eq_true q17) | ((with_reducible refine hd_ (b := .append) (xs := #[.tmp 27, .tmp 30]) rfl ?_); at_builtin; refine Kd.af_ (Kd.int .i64) w.heap.size rfl (.tmp 27) (.tmp 30) 27 3 (.int .i64 0) 8 rfl Try.underlying27 te_ rfl (by decide) (by omega) v224 y223 y226 _ _ _ (fun k_ => some k_ ≠ (.slice Ao14 x5_1.length co14 : Value).ownBlock) (fun _ => False) rfl rfl ?aO ?aR (fun _ _ h => h) (fun _ h => h.elim) ?aF (Below.refl _ _) ?aS ?aL ?_; (case aR => repeat (first | exact (by repeat (first | (with_reducible exact HR229.out) | (with_reducible refine Kd.yb_ ?_ _) | (with_reducible refine Kd.zb_ ?_ _) | (with_reducible refine Kd.jc_ ?_) | exact HR229.out)) | (with_reducible refine Kd.yb_ ?_ _) | (with_reducible refine Kd.zb_ ?_ _) | (with_reducible refine Kd.jc_ ?_))); (case aF => exact (fun k_ hk => Kd.fresh' (Kd.R_lt (by (with_reducible repeat (first | apply Kd.la_ | apply Kd.ka_ | apply Kd.ma_)); exact HO_5.out)) k_ hk)); (case aO => exact (by (with_reducible repeat (first | apply Kd.la_ | apply Kd.ka_ | apply Kd.ma_)); exact HO225.out)); (case aS => exact (we_ (w := w) (g := g) (row := none) (by repeat (first | (with_reducible first | exact HK.out | apply xa_.set_ | apply kb_ | apply rb_ | apply jb_) | exact HK.out)))); (case aL => have := LMc11.out; omega); intro v231 w18 ho hb hg hat; rw [← Ny230.out] at ho; have n0_ := ba_.mk (Kd.wd_ (ok := (fun _ => True)) (by (with_reducible repeat (first | apply Kd.la_ | apply Kd.ka_ | apply Kd.ma_)); exact HO_5.out) hg hat); have n1_ := ba_.mk (ia_.grown (by repeat (first | (with_reducible first | exact HI0.out | apply ia_.alloc | apply ia_.drewN | apply ia_.drew | apply ia_.ic_) | exact HI0.out)) hg (ia_.fe_ HI0.out HO225.out (by decide))); have n2_ := ba_.mk (se_ (by repeat (first | (with_reducible first | exact HB.out | apply fa_ | apply ca_ | apply ga_ | refine qa_ ?_ (ia_.ge HI0.out)) | exact HB.out)) HL.out hb); have n3_ := ba_.mk (xa_.trans (by repeat (first | (with_reducible first | exact HK.out | apply xa_.set_ | apply kb_ | apply rb_ | apply jb_) | exact HK.out)) (xa_.mf_ hg g) (Kd.eh_ HO225.out)); have n4_ := ba_.mk ((show Kd.C (Kd.int .i64) w18 Ao14 y216.length y216 from by rw [Ny216.out]; exact Kd.ei_ (m := (t214 : Int).toNat) ((Kd.ta_ (Kd.wd_ (ok := (fun _ => True)) (by (with_reducible repeat (first | apply Kd.la_ | apply Kd.ka_ | apply Kd.ma_)); exact HO_5.out) hg hat)).2.2) KL13.out)); have n5_ := ba_.mk ((show Kd.C (Kd.int .i64) w18 A17 y226.length y226 from by rw [Ny226.out, KA17.out]; exact Kd.wn_ (m := (t214 : Int).toNat) (c := co14) ((Kd.ta_ (Kd.wd_ (ok := (fun _ => True)) (by (with_reducible repeat (first | apply Kd.la_ | apply Kd.ka_ | apply Kd.ma_)); exact HO_5.out) hg hat)).2.2) KL17.out ((Kd.ta_ (Kd.wd_ (ok := (fun _ => True)) (by (with_reducible repeat (first | apply Kd.la_ | apply Kd.ka_ | apply Kd.ma_)); exact HO_5.out) hg hat)).2.1))); have n6_ := ba_.mk (ho); clear HO_5; clear HI0; clear HB; clear HK; clear HR219; clear HR229; clear HO225; have HO_5 := n0_; have HI0 := n1_; have HB := n2_; have HK := n3_; have HR219 := n4_; have HR229 := n5_; have HO232 := n6_; clear n0_ n1_ n2_ n3_ n4_ n5_ n6_; clear ho hb hg hat))
         go_roundg k1
         case measure => have := HK1.out; omega
         case rel => exact ⟨(y230), (wrap64 (x6_1 + 1)), (t215), (by first | rfl | (simp; done) | (simp [*]; done)), H', ⟨by have := HK1.out; omega⟩, ⟨by (with_reducible repeat (first | apply Kd.la_ | apply Kd.ka_ | apply Kd.ma_)); exact Kd.bc_ HO232.out (fun _ hk => trivial)⟩, ⟨by repeat (first | (with_reducible first | exact HI0.out | apply ia_.alloc | apply ia_.drewN | apply ia_.drew | apply ia_.ic_) | exact HI0.out)⟩, ⟨by repeat (first | (with_reducible first | exact HK.out | apply xa_.set_ | apply kb_ | apply rb_ | apply jb_) | exact HK.out)⟩, ⟨by repeat (first | (with_reducible first | exact HB.out | apply fa_ | apply ca_ | apply ga_ | refine qa_ ?_ (ia_.ge HI0.out)) | exact HB.out)⟩⟩
        ·rw [if_neg c11] at H
         exact absurd H (by simp)
       ·rw [if_neg c8] at H
        exact absurd H (by simp)
      ·rw [if_neg c7] at H
       exact absurd H (by simp)
     ·rw [if_neg c6] at H
      exact absurd H (by simp)
    ·rw [if_neg c5] at H
     exact absurd H (by simp)
   ·rw [if_neg c3] at H
    have c3b0 : decide (x6_1 < a1) = false := decide_eq_false c3
    clear c3
    simp only [Option.some.injEq, Prod.mk.injEq] at H
    obtain ⟨rfl, rfl⟩ := H
    go_wp2
    go_ret
    exact ⟨_, by first | rfl | (simp [bb_, cb_] <;> rfl) | (simp [*, bb_, cb_] <;> rfl), by (with_reducible repeat (first | apply Kd.la_ | apply Kd.ka_ | apply Kd.ma_)); exact HO_5.out, by repeat (first | (with_reducible first | exact HI0.out | apply ia_.alloc | apply ia_.drewN | apply ia_.drew | apply ia_.ic_) | exact HI0.out), by repeat (first | (with_reducible first | exact HB.out | apply fa_ | apply ca_ | apply ga_ | refine qa_ ?_ (ia_.ge HI0.out)) | exact HB.out), by repeat (first | (with_reducible first | exact HK.out | apply xa_.set_ | apply kb_ | apply rb_ | apply jb_) | exact HK.out)⟩
end Go.Proofs.Ytpkhgapifnjbeaa.Y
end
section
namespace Go.Proofs.Ytpkhgapifnjbeaa.Y
open Go.RowKit Go.Proofs.Ytpkhgapifnjbeaa.G Go.Proofs.Ytpkhgapifnjbeaa.Rs Go.Proofs.YtpkhgapifnjbeaaW.PrintWords Go.Proofs.YtpkhgapifnjbeaaW.PrintLast Go.Proofs.YtpkhgapifnjbeaaW.PrintMore
attribute [local go_sem] dd_ fd_ rd_ sd_ uc_ vc_ ed_ gd_
set_option linter.unusedVariables false
set_option linter.unusedSimpArgs false
mutual
def da_.l0 : Nat → Int → Int → List Int → Int → List Int → Int → Option (List Int × List Int × Int)
 | 0, _, _, _, _, _, _ => none
 | k + 1, x1, x2, x8, x9, x1000, x1001 => if x9 > 0 then ((na_.f x1000 x1001 32).bind fun bt235 => (if x8.length < 17592186044416 then (da_.l0 k x1 x2 (x8 ++ [bt235.1]) (wrap64 (x9 - 1)) x1000 bt235.2) else (none))) else ((pi_.f x8).bind fun bt240 => ((ja_.f k x1000 x1001 (bt240.1.length : Int)).bind fun bt244 => (da_.l1 k x1 x2 x8 bt240.1 bt244.1 0 x1000 bt244.2)))
def da_.l1 : Nat → Int → Int → List Int → List Int → List Int → Int → List Int → Int → Option (List Int × List Int × Int)
 | 0, _, _, _, _, _, _, _, _ => none
 | k + 1, x1, x2, x8, x10, x12, x13, x1000, x1001 => if x13 < (wrap64 (x1 + x2)) then (da_.j2 k x1 x2 x8 x10 x12 x13 (decide (x13 < (x12.length : Int))) x1000 x1001) else (da_.j2 k x1 x2 x8 x10 x12 x13 false x1000 x1001)
def da_.j2 : Nat → Int → Int → List Int → List Int → List Int → Int → Bool → List Int → Int → Option (List Int × List Int × Int)
 | 0, _, _, _, _, _, _, _, _, _ => none
 | k + 1, x1, x2, x8, x10, x12, x13, x44, x1000, x1001 => if x44 = true then (if x13 < x1 then (if 0 ≤ x13 then (if x13 < (x12.length : Int) then (if 0 ≤ (rd x12 x13) then (if (rd x12 x13) < (x10.length : Int) then ((oa_.f x1000 x1001 1 31).bind fun bt250 => (da_.l1 k x1 x2 x8 (x10.set ((rd x12 x13) : Int).toNat (Go.bits .xor .i64 (rd x10 (rd x12 x13)) bt250.1)) x12 (wrap64 (x13 + 1)) x1000 bt250.2)) else (none)) else (none)) else (none)) else (none)) else (if 0 ≤ x13 then (if x13 < (x12.length : Int) then (if 0 ≤ (rd x12 x13) then (if (rd x12 x13) < (x10.length : Int) then (da_.l1 k x1 x2 x8 (x10.set ((rd x12 x13) : Int).toNat (-1)) x12 (wrap64 (x13 + 1)) x1000 x1001) else (none)) else (none)) else (none)) else (none))) else (some (x10, x8, x1001))
end
def da_.f (k : Nat) (s0_0 : List Int) (s0_1 : Int) (a1 : Int) (a2 : Int) : Option (List Int × List Int × Int) := (oa_.f s0_0 s0_1 1 9).bind fun bt233 => (da_.l0 k a1 a2 ([] : List Int) bt233.1 s0_0 bt233.2)
theorem da_.xc_ : ∀ k, (∀ y0 y1 y2 y3 y4 y5, LeO (da_.l0 k y0 y1 y2 y3 y4 y5) (da_.l0 (k + 1) y0 y1 y2 y3 y4 y5)) ∧ (∀ y0 y1 y2 y3 y4 y5 y6 y7, LeO (da_.l1 k y0 y1 y2 y3 y4 y5 y6 y7) (da_.l1 (k + 1) y0 y1 y2 y3 y4 y5 y6 y7)) ∧ (∀ y0 y1 y2 y3 y4 y5 y6 y7 y8, LeO (da_.j2 k y0 y1 y2 y3 y4 y5 y6 y7 y8) (da_.j2 (k + 1) y0 y1 y2 y3 y4 y5 y6 y7 y8))
 | 0 => ⟨fun _ _ _ _ _ _ r h => by simp [da_.l0] at h, fun _ _ _ _ _ _ _ _ r h => by simp [da_.l1] at h, fun _ _ _ _ _ _ _ _ _ r h => by simp [da_.j2] at h⟩
 | k + 1 => by
  obtain ⟨ih0, ih1, ih2⟩ := da_.xc_ k
  refine ⟨?_, ?_, ?_⟩
  ·intro y0 y1 y2 y3 y4 y5
   unfold da_.l0
   repeat' first
   | (with_reducible exact ih0 _ _ _ _ _ _)
   | (with_reducible exact ih1 _ _ _ _ _ _ _ _)
   | (with_reducible exact ih2 _ _ _ _ _ _ _ _ _)
   | (with_reducible exact ja_.mono _ _ _ _)
   | (with_reducible exact LeO.refl _)
   | (with_reducible exact LeO.none _)
   | (with_reducible refine LeO.ite ?_ ?_)
   | (with_reducible refine LeO.bind ?_ (fun _ => ?_))
   | exact ih0 _ _ _ _ _ _
   | exact ih1 _ _ _ _ _ _ _ _
   | exact ih2 _ _ _ _ _ _ _ _ _
   | exact ja_.mono _ _ _ _
   | exact LeO.none _
   | refine LeO.ite ?_ ?_
   | refine LeO.bind ?_ (fun _ => ?_)
  ·intro y0 y1 y2 y3 y4 y5 y6 y7
   unfold da_.l1
   repeat' first
   | (with_reducible exact ih0 _ _ _ _ _ _)
   | (with_reducible exact ih1 _ _ _ _ _ _ _ _)
   | (with_reducible exact ih2 _ _ _ _ _ _ _ _ _)
   | (with_reducible exact ja_.mono _ _ _ _)
   | (with_reducible exact LeO.refl _)
   | (with_reducible exact LeO.none _)
   | (with_reducible refine LeO.ite ?_ ?_)
   | (with_reducible refine LeO.bind ?_ (fun _ => ?_))
   | exact ih0 _ _ _ _ _ _
   | exact ih1 _ _ _ _ _ _ _ _
   | exact ih2 _ _ _ _ _ _ _ _ _
   | exact ja_.mono _ _ _ _
   | exact LeO.none _
   | refine LeO.ite ?_ ?_
   | refine LeO.bind ?_ (fun _ => ?_)
  ·intro y0 y1 y2 y3 y4 y5 y6 y7 y8
   unfold da_.j2
   repeat' first
   | (with_reducible exact ih0 _ _ _ _ _ _)
   | (with_reducible exact ih1 _ _ _ _ _ _ _ _)
   | (with_reducible exact ih2 _ _ _ _ _ _ _ _ _)
   | (with_reducible exact ja_.mono _ _ _ _)
   | (with_reducible exact LeO.refl _)
   | (with_reducible exact LeO.none _)
   | (with_reducible refine LeO.ite ?_ ?_)
   | (with_reducible refine LeO.bind ?_ (fun _ => ?_))
   | exact ih0 _ _ _ _ _ _
   | exact ih1 _ _ _ _ _ _ _ _
   | exact ih2 _ _ _ _ _ _ _ _ _
   | exact ja_.mono _ _ _ _
   | exact LeO.none _
   | refine LeO.ite ?_ ?_
   | refine LeO.bind ?_ (fun _ => ?_)
theorem da_.mono : ∀ a0 a1 a2 a3 k, LeO (da_.f k a0 a1 a2 a3) (da_.f (k + 1) a0 a1 a2 a3) := by
 intro a0 a1 a2 a3 k
 obtain ⟨ih0, ih1, ih2⟩ := da_.xc_ k
 unfold da_.f
 repeat' first
   | (with_reducible exact ih0 _ _ _ _ _ _)
   | (with_reducible exact ih1 _ _ _ _ _ _ _ _)
   | (with_reducible exact ih2 _ _ _ _ _ _ _ _ _)
   | (with_reducible exact ja_.mono _ _ _ _)
   | (with_reducible exact LeO.refl _)
   | (with_reducible exact LeO.none _)
   | (with_reducible refine LeO.ite ?_ ?_)
   | (with_reducible refine LeO.bind ?_ (fun _ => ?_))
   | exact ih0 _ _ _ _ _ _
   | exact ih1 _ _ _ _ _ _ _ _
   | exact ih2 _ _ _ _ _ _ _ _ _
   | exact ja_.mono _ _ _ _
   | exact LeO.none _
   | refine LeO.ite ?_ ?_
   | refine LeO.bind ?_ (fun _ => ?_)
def da_.T12 : Bool × List (List Nat × List Nat) := (true, [([], []), ([], []), ([], []), ([1, 2], [1, 2]), ([3], [3]), ([0, 4], [0, 4]), ([5], [5]), ([], []), ([7], [7]), ([6, 8], [6, 8]), ([0, 4, 0, 1, 2, 3, 4, 5, 6, 7, 8, 9], [0, 4]), ([10, 9, 8, 0, 1, 2, 3, 4, 5, 6, 7, 8, 9], [9, 10])])
def da_.B12 : List Nat := [0, 0, 0, 6, 14, 31, 63, 0, 128, 511, 1023, 2047]
theorem da_.lv_ : rtab .any (opsOf Try.f30 12) = da_.T12 := by kernel_rfl
theorem da_.ep_ : yi_ da_.T12.2 da_.B12 = true := by kernel_rfl
set_option maxHeartbeats 8000000 in
set_option maxRecDepth 100000 in
theorem da_.calls (k : Nat) (g : Nat) (s0_0 : List Int) (s0_1 : Int) (a1 : Int) (a2 : Int) (r1 : List Int) (r2 : List Int) (r3 : Int) (w0 w : World) (hI : ia_ w0 w g s0_0 s0_1) (hB : Below w0.heap.size w0 w) (h : da_.f k s0_0 s0_1 a1 a2 = some (r1, r2, r3)) :
  Calls Try.prog 30 #[.pointer (some ⟨g, 0, none⟩), .int .i64 a1, .int .i64 a2] w fun e w' => ∃ v0_ v1_ : Value, e = .returned (.tuple #[v0_, v1_]) ∧ Kd.R (Kd.int .i64) 3 w' w.heap.size (fun k_ => some k_ ≠ (v1_ : Value).ownBlock) v0_ r1 ∧ Kd.R (Kd.int .i64) 3 w' w.heap.size (fun k_ => some k_ ≠ (v0_ : Value).ownBlock) v1_ r2 ∧ ia_ w0 w' g s0_0 r3 ∧ Below w0.heap.size w0 w' ∧ xa_ w w' g none := by
 have HI0 := ba_.mk hI
 have HK := ba_.mk (xa_.refl w g none)
 have HL := ba_.mk hB.size
 clear hI
 have HW0 := ba_.mk hB.size
 have HB := ba_.mk hB
 clear hB
 have H : ((oa_.f s0_0 s0_1 1 9).bind fun bt233 => (da_.l0 k a1 a2 ([] : List Int) bt233.1 s0_0 bt233.2)) = some (r1, r2, r3) := h
 clear h
 replace H := Option.bind_eq_some_iff.mp H
 obtain ⟨⟨t233, t234⟩, A40, H⟩ := H
 replace H : (da_.l0 k a1 a2 ([] : List Int) t233 s0_0 t234) = some (r1, r2, r3) := H
 have A4 := ba_.mk A40
 clear A40
 have H' := ba_.mk H
 clear H
 go_enter Try.func30, Try.ntmps30
 go_wp2_with (first | ((with_reducible refine ua_ (f := 31) rfl ?_); refine hc_ (some 15) rfl rfl Try.func31 (by kernel_rfl) rfl #[.pointer (some ⟨g, 0, none⟩), .int .i64 1, .int .i64 9] rfl (by (try simp only [List.map_toArray, List.map_cons, List.map_nil]); first | done | rfl | (simp only [List.length_drop, List.length_take]; rfl)) ?_; (with_reducible refine (oa_.calls g s0_0 s0_1 1 9 t233 t234 w0 _ ?side1 ?side2 A4.out).mono ?_); (case side1 => repeat (first | (with_reducible first | exact HI0.out | apply ia_.alloc | apply ia_.drewN | apply ia_.drew | apply ia_.ic_) | exact HI0.out)); (case side2 => repeat (first | (with_reducible first | exact HB.out | apply fa_ | apply ca_ | apply ga_ | refine qa_ ?_ (ia_.ge HI0.out)) | exact HB.out)); rintro e w5 ⟨rfl, hi, hb, hk⟩; refine ⟨_, rfl, ?_⟩; have n0_ := ba_.mk (xa_.trans (by repeat (first | (with_reducible first | exact HK.out | apply xa_.set_ | apply kb_ | apply rb_ | apply jb_) | exact HK.out)) hk (.inl rfl)); have n1_ := ba_.mk (hb); have n2_ := ba_.mk (hi); clear HK; clear HB; clear HI0; have HK := n0_; have HB := n1_; have HI0 := n2_; clear n0_ n1_ n2_; (try clear hb); (try clear hb2); (try clear hk); (try clear hi)))
 go_loopg [8, 9] k (fun kq v8 v9 w' => ∃ (x8_1 : List Int) (x9_1 : Int) (x1001_1 : Int), v9 = .int .i64 x9_1 ∧ ba_ (da_.l0 kq a1 a2 x8_1 x9_1 s0_0 x1001_1 = some (r1, r2, r3)) ∧ ba_ (kq ≤ k) ∧ ba_ (Kd.R (Kd.int .i64) 3 w' w.heap.size (fun _ => True) v8 x8_1) ∧ ba_ (ia_ w0 w' g s0_0 x1001_1) ∧ ba_ (xa_ w w' g none) ∧ ba_ (Below w0.heap.size w0 w'))
 case atStart => exact ⟨(([] : List Int)), (t233), (t234), (by first | rfl | (simp; done) | (simp [*]; done)), H', ⟨Nat.le_refl _⟩, ⟨by first | exact Kd.uf_ _ _ _ _ _ | exact Kd.mh_ _ _ _ _ _ | exact Kd.ph_ _ _ _ _ _ | exact Kd.nh_ _ _ _ _ _ | exact Kd.oh_ _ _ _ _ _⟩, ⟨by repeat (first | (with_reducible first | exact HI0.out | apply ia_.alloc | apply ia_.drewN | apply ia_.drew | apply ia_.ic_) | exact HI0.out)⟩, ⟨by repeat (first | (with_reducible first | exact HK.out | apply xa_.set_ | apply kb_ | apply rb_ | apply jb_) | exact HK.out)⟩, ⟨by repeat (first | (with_reducible first | exact HB.out | apply fa_ | apply ca_ | apply ga_ | refine qa_ ?_ (ia_.ge HI0.out)) | exact HB.out)⟩⟩
 case round =>
  clear H'
  try clear p2
  try clear c3
  obtain ⟨x8_1, x9_1, x1001_1, rfl, HA, HK1, HO_8, HI0, HK, HB⟩ := hrel
  cases gk with
  | zero => exact absurd HA.out (by simp [da_.l0])
  | succ k1 =>
   have H := HA.out
   clear HA
   simp only [da_.l0] at H
   by_cases c6 : x9_1 > 0
   ·rw [if_pos c6] at H
    have c6b0 : decide (0 < x9_1) = true := decide_eq_true c6
    clear c6
    replace H := Option.bind_eq_some_iff.mp H
    obtain ⟨⟨t235, t236⟩, A70, H⟩ := H
    replace H : (if x8_1.length < 17592186044416 then (da_.l0 k1 a1 a2 (x8_1 ++ [t235]) (wrap64 (x9_1 - 1)) s0_0 t236) else (none)) = some (r1, r2, r3) := H
    have A7 := ba_.mk A70
    clear A70
    by_cases c8 : x8_1.length < 17592186044416
    ·rw [if_pos c8] at H
     have LMc8 := ba_.mk c8
     clear c8
     obtain ⟨y237, hy237⟩ : ∃ y_ : List Int, y_ = (x8_1 ++ [t235]) := ⟨_, rfl⟩
     replace H : (da_.l0 k1 a1 a2 y237 (wrap64 (x9_1 - 1)) s0_0 t236) = some (r1, r2, r3) := by first | (rw [hy237]; with_reducible exact H) | (have H2_ := (Option.bind_some _ _).symm.trans H; rw [hy237]; with_reducible exact H2_) | (have H2_ := (Option.bind_some _ _).symm.trans H; with_reducible exact H2_) | with_reducible exact H | (rw [hy237]; exact H) | exact H
     have Ny237 := ba_.mk hy237
     clear hy237
     have H' := ba_.mk H
     clear H
     go_wp2_with (first | ((with_reducible refine ua_ (f := 26) rfl ?_); refine hc_ (some 22) rfl rfl Try.func26 (by kernel_rfl) rfl #[.pointer (some ⟨g, 0, none⟩), .int .i64 32] rfl (by (try simp only [List.map_toArray, List.map_cons, List.map_nil]); first | done | rfl | (simp only [List.length_drop, List.length_take]; rfl)) ?_; (with_reducible refine (na_.calls g s0_0 x1001_1 32 t235 t236 w0 _ ?side1 ?side2 A7.out).mono ?_); (case side1 => repeat (first | (with_reducible first | exact HI0.out | apply ia_.alloc | apply ia_.drewN | apply ia_.drew | apply ia_.ic_) | exact HI0.out)); (case side2 => repeat (first | (with_reducible first | exact HB.out | apply fa_ | apply ca_ | apply ga_ | refine qa_ ?_ (ia_.ge HI0.out)) | exact HB.out)); rintro e w9 ⟨rfl, hi, hb, hk⟩; refine ⟨_, rfl, ?_⟩; have n0_ := ba_.mk (Kd.bc_ (Kd.ne_ (ia_.apart (show ia_ w0 _ g s0_0 x1001_1 from by repeat (first | (with_reducible first | exact HI0.out | apply ia_.alloc | apply ia_.drewN | apply ia_.drew | apply ia_.ic_) | exact HI0.out)) (by (with_reducible repeat (first | apply Kd.la_ | apply Kd.ka_ | apply Kd.ma_)); exact HO_8.out) (by decide)) hk (fun _ h => h.2)) (fun _ h => h.1)); have n1_ := ba_.mk (xa_.trans (by repeat (first | (with_reducible first | exact HK.out | apply xa_.set_ | apply kb_ | apply rb_ | apply jb_) | exact HK.out)) hk (.inl rfl)); have n2_ := ba_.mk (hb); have n3_ := ba_.mk (hi); clear HO_8; clear HK; clear HB; clear HI0; have HO_8 := n0_; have HK := n1_; have HB := n2_; have HI0 := n3_; clear n0_ n1_ n2_ n3_; (try clear hb); (try clear hb2); (try clear hk); (try clear hi)) | ((with_reducible refine hd_ (b := .append) (xs := #[.tmp 20, .tmp 23]) rfl ?_); (try (refine ce_ (by rfl) ?_; dsimp only)); at_builtin; refine Kd.qe_ (Kd.int .i64) w.heap.size rfl (.tmp 20) (.tmp 23) 27 3 (.int .i64 0) 8 rfl Try.underlying27 te_ rfl (by decide) (by omega) u8 x8_1 t235 [.int .i64 t235] (fun _ => True) (fun _ => False) rfl rfl ?aP (fun _ hk => hk.elim) ?aF ?aO (Below.refl _ _) ?aS ?aL ?_; (case aP => exact rfl); (case aF => exact (fun _ _ => trivial)); (case aO => exact (by (with_reducible repeat (first | apply Kd.la_ | apply Kd.ka_ | apply Kd.ma_)); exact HO_8.out)); (case aS => exact (we_ (w := w) (g := g) (row := none) (by repeat (first | (with_reducible first | exact HK.out | apply xa_.set_ | apply kb_ | apply rb_ | apply jb_) | exact HK.out)))); (case aL => have := LMc8.out; omega); intro v238 w10 ho hb hg hat; rw [← Ny237.out] at ho; have n0_ := ba_.mk (ia_.grown (by repeat (first | (with_reducible first | exact HI0.out | apply ia_.alloc | apply ia_.drewN | apply ia_.drew | apply ia_.ic_) | exact HI0.out)) hg (ia_.fe_ HI0.out HO_8.out (by decide))); have n1_ := ba_.mk (se_ (by repeat (first | (with_reducible first | exact HB.out | apply fa_ | apply ca_ | apply ga_ | refine qa_ ?_ (ia_.ge HI0.out)) | exact HB.out)) HL.out hb); have n2_ := ba_.mk (xa_.trans (by repeat (first | (with_reducible first | exact HK.out | apply xa_.set_ | apply kb_ | apply rb_ | apply jb_) | exact HK.out)) (xa_.mf_ hg g) (Kd.eh_ HO_8.out)); have n3_ := ba_.mk (ho); clear HI0; clear HB; clear HK; clear HO_8; have HI0 := n0_; have HB := n1_; have HK := n2_; have HO239 := n3_; clear n0_ n1_ n2_ n3_; clear ho hb hg hat))
     go_roundg k1
     case measure => have := HK1.out; omega
     case rel => exact ⟨(y237), (wrap64 (x9_1 - 1)), (t236), (by first | rfl | (simp; done) | (simp [*]; done)), H', ⟨by have := HK1.out; omega⟩, ⟨by (with_reducible repeat (first | apply Kd.la_ | apply Kd.ka_ | apply Kd.ma_)); exact HO239.out⟩, ⟨by repeat (first | (with_reducible first | exact HI0.out | apply ia_.alloc | apply ia_.drewN | apply ia_.drew | apply ia_.ic_) | exact HI0.out)⟩, ⟨by repeat (first | (with_reducible first | exact HK.out | apply xa_.set_ | apply kb_ | apply rb_ | apply jb_) | exact HK.out)⟩, ⟨by repeat (first | (with_reducible first | exact HB.out | apply fa_ | apply ca_ | apply ga_ | refine qa_ ?_ (ia_.ge HI0.out)) | exact HB.out)⟩⟩
    ·rw [if_neg c8] at H
     exact absurd H (by simp)
   ·rw [if_neg c6] at H
    have c6b0 : decide (0 < x9_1) = false := decide_eq_false c6
    clear c6
    replace H := Option.bind_eq_some_iff.mp H
    obtain ⟨⟨t240, t241⟩, A110, H⟩ := H
    replace H : ((ja_.f k1 s0_0 x1001_1 (t240.length : Int)).bind fun bt244 => (da_.l1 k1 a1 a2 x8_1 t240 bt244.1 0 s0_0 bt244.2)) = some (r1, r2, r3) := H
    have A11 := ba_.mk A110
    clear A110
    replace H := Option.bind_eq_some_iff.mp H
    obtain ⟨⟨t244, t247⟩, A120, H⟩ := H
    replace H : (da_.l1 k1 a1 a2 x8_1 t240 t244 0 s0_0 t247) = some (r1, r2, r3) := H
    have A12 := ba_.mk A120
    clear A120
    have H' := ba_.mk H
    clear H
    obtain ⟨Ao13, co13, eo13⟩ := Kd.fc_ HO_8.out
    subst eo13
    go_wp2_with (first | ((with_reducible refine ua_ (f := 28) rfl ?_); refine hc_ (some 27) rfl rfl Try.func28 (by kernel_rfl) rfl #[.slice Ao13 x8_1.length co13] rfl (by (try simp only [List.map_toArray, List.map_cons, List.map_nil]); first | done | rfl | (simp only [List.length_drop, List.length_take]; rfl)) ?_; (with_reducible refine (pi_.calls _ _ x8_1 t240 t241 _ ?side1 ?side2 A11.out).mono ?_); (case side1 => repeat (first | exact (Kd.ta_ HO_8.out).2.2 | (with_reducible refine Kd.yb_ ?_ _) | (with_reducible refine Kd.zb_ ?_ _) | (with_reducible refine Kd.jc_ ?_))); (case side2 => exact (Kd.ta_ HO_8.out).2.1); rintro e w14 ⟨v242, rfl, ho0, hb⟩; refine ⟨_, rfl, ?_⟩; have n0_ := ba_.mk (Kd.wb_ (by (with_reducible repeat (first | apply Kd.la_ | apply Kd.ka_ | apply Kd.ma_)); exact HO_8.out) (Kd.rc_ ho0) hb); have n1_ := ba_.mk (Kd.wc_ (Kd.qc_ ho0 (Kd.R_lt (by (with_reducible repeat (first | apply Kd.la_ | apply Kd.ka_ | apply Kd.ma_)); exact HO_8.out))) (we_ (w := w) (g := g) (row := none) (by repeat (first | (with_reducible first | exact HK.out | apply xa_.set_ | apply kb_ | apply rb_ | apply jb_) | exact HK.out)))); have n2_ := ba_.mk (ia_.below (by repeat (first | (with_reducible first | exact HI0.out | apply ia_.alloc | apply ia_.drewN | apply ia_.drew | apply ia_.ic_) | exact HI0.out)) hb); have n3_ := ba_.mk (xa_.trans (by repeat (first | (with_reducible first | exact HK.out | apply xa_.set_ | apply kb_ | apply rb_ | apply jb_) | exact HK.out)) (xa_.vl_ hb g none) (.inl rfl)); have n4_ := ba_.mk (gb_ (by repeat (first | (with_reducible first | exact HB.out | apply fa_ | apply ca_ | apply ga_ | refine qa_ ?_ (ia_.ge HI0.out)) | exact HB.out)) hb); clear HO_8; clear HI0; clear HK; clear HB; have HO_8 := n0_; have HO243 := n1_; have HI0 := n2_; have HK := n3_; have HB := n4_; clear n0_ n1_ n2_ n3_ n4_; (try clear hb); (try clear hb2); (try clear hk); (try clear hi); (try clear ho0); obtain ⟨Ao15, co15, eo15⟩ := Kd.fc_ HO243.out; subst eo15) | ((with_reducible refine ua_ (f := 49) rfl ?_); refine hc_ (some 33) rfl rfl Try.func49 (by kernel_rfl) rfl #[.pointer (some ⟨g, 0, none⟩), .int .i64 (t240.length : Int)] rfl (by (try simp only [List.map_toArray, List.map_cons, List.map_nil]); first | done | rfl | (simp only [List.length_drop, List.length_take]; rfl)) ?_; (with_reducible refine (ja_.calls k1 g s0_0 x1001_1 (t240.length : Int) t244 t247 w0 _ ?side1 ?side2 A12.out).mono ?_); (case side1 => repeat (first | (with_reducible first | exact HI0.out | apply ia_.alloc | apply ia_.drewN | apply ia_.drew | apply ia_.ic_) | exact HI0.out)); (case side2 => repeat (first | (with_reducible first | exact HB.out | apply fa_ | apply ca_ | apply ga_ | refine qa_ ?_ (ia_.ge HI0.out)) | exact HB.out)); rintro e w16 ⟨v245, rfl, ho0, hi, hb, hk⟩; refine ⟨_, rfl, ?_⟩; have n0_ := ba_.mk (Kd.bc_ (Kd.yn_ (Kd.xn_ (ia_.apart (show ia_ w0 _ g s0_0 x1001_1 from by repeat (first | (with_reducible first | exact HI0.out | apply ia_.alloc | apply ia_.drewN | apply ia_.drew | apply ia_.ic_) | exact HI0.out)) (by (with_reducible repeat (first | apply Kd.la_ | apply Kd.ka_ | apply Kd.ma_)); exact HO_8.out) (by decide)) hk) (Kd.rc_ ho0)) (fun _ h_ => h_.1)); have n1_ := ba_.mk (Kd.bc_ (Kd.yn_ (Kd.xn_ (ia_.apart (show ia_ w0 _ g s0_0 x1001_1 from by repeat (first | (with_reducible first | exact HI0.out | apply ia_.alloc | apply ia_.drewN | apply ia_.drew | apply ia_.ic_) | exact HI0.out)) (by (with_reducible repeat (first | apply Kd.la_ | apply Kd.ka_ | apply Kd.ma_)); exact HO243.out) (by decide)) hk) (Kd.rc_ ho0)) (fun _ h_ => h_.1)); have n2_ := ba_.mk (Kd.wc_ (Kd.qc_ (Kd.qc_ ho0 (Kd.R_lt (by (with_reducible repeat (first | apply Kd.la_ | apply Kd.ka_ | apply Kd.ma_)); exact HO_8.out))) (Kd.R_lt (by (with_reducible repeat (first | apply Kd.la_ | apply Kd.ka_ | apply Kd.ma_)); exact HO243.out))) (we_ (w := w) (g := g) (row := none) (by repeat (first | (with_reducible first | exact HK.out | apply xa_.set_ | apply kb_ | apply rb_ | apply jb_) | exact HK.out)))); have n3_ := ba_.mk (xa_.trans (by repeat (first | (with_reducible first | exact HK.out | apply xa_.set_ | apply kb_ | apply rb_ | apply jb_) | exact HK.out)) hk (.inl rfl)); have n4_ := ba_.mk (hb); have n5_ := ba_.mk (hi); clear HO_8; clear HO243; clear HK; clear HB; clear HI0; have HO_8 := n0_; have HO243 := n1_; have HO246 := n2_; have HK := n3_; have HB := n4_; have HI0 := n5_; clear n0_ n1_ n2_ n3_ n4_ n5_; (try clear hb); (try clear hb2); (try clear hk); (try clear hi); (try clear ho0)))
    go_loopg [13] k1 (fun kq v13 w' => ∃ (x10_2 : List Int) (x13_2 : Int) (x1001_2 : Int), v13 = .int .i64 x13_2 ∧ ba_ (da_.l1 kq a1 a2 x8_1 x10_2 t244 x13_2 s0_0 x1001_2 = some (r1, r2, r3)) ∧ ba_ (kq ≤ k1) ∧ ba_ (Kd.R (Kd.int .i64) 3 w' w.heap.size (fun k_ => some k_ ≠ ((.slice Ao15 t240.length co15) : Value).ownBlock ∧ some k_ ≠ (v245 : Value).ownBlock) (.slice Ao13 x8_1.length co13) x8_1) ∧ ba_ (Kd.R (Kd.int .i64) 3 w' w.heap.size (fun k_ => some k_ ≠ ((.slice Ao13 x8_1.length co13) : Value).ownBlock ∧ some k_ ≠ (v245 : Value).ownBlock) (.slice Ao15 t240.length co15) x10_2) ∧ ba_ (Kd.R (Kd.int .i64) 3 w' w.heap.size (fun k_ => some k_ ≠ ((.slice Ao13 x8_1.length co13) : Value).ownBlock ∧ some k_ ≠ ((.slice Ao15 t240.length co15) : Value).ownBlock) v245 t244) ∧ ba_ (ia_ w0 w' g s0_0 x1001_2) ∧ ba_ (xa_ w w' g none) ∧ ba_ (Below w0.heap.size w0 w'))
    case atStart => exact ⟨(t240), (0), (t247), (by first | rfl | (simp; done) | (simp [*]; done)), H', ⟨Nat.le_refl _⟩, ⟨by (with_reducible repeat (first | apply Kd.la_ | apply Kd.ka_ | apply Kd.ma_)); exact Kd.bc_ HO_8.out (fun _ hk => ⟨hk.1.2, hk.2⟩)⟩, ⟨by (with_reducible repeat (first | apply Kd.la_ | apply Kd.ka_ | apply Kd.ma_)); exact Kd.bc_ HO243.out (fun _ hk => ⟨hk.1.2, hk.2⟩)⟩, ⟨by (with_reducible repeat (first | apply Kd.la_ | apply Kd.ka_ | apply Kd.ma_)); exact Kd.bc_ HO246.out (fun _ hk => ⟨hk.1.2, hk.2⟩)⟩, ⟨by repeat (first | (with_reducible first | exact HI0.out | apply ia_.alloc | apply ia_.drewN | apply ia_.drew | apply ia_.ic_) | exact HI0.out)⟩, ⟨by repeat (first | (with_reducible first | exact HK.out | apply xa_.set_ | apply kb_ | apply rb_ | apply jb_) | exact HK.out)⟩, ⟨by repeat (first | (with_reducible first | exact HB.out | apply fa_ | apply ca_ | apply ga_ | refine qa_ ?_ (ia_.ge HI0.out)) | exact HB.out)⟩⟩
    case round =>
     clear H'
     try clear c2
     try clear p2
     try clear c3
     try clear c4
     try clear c6
     try clear c6b0
     try clear p6
     try clear c8
     try clear p2
     obtain ⟨x10_2, x13_2, x1001_2, rfl, HA, HK2, HO_8, HO_10, HO_12, HI0, HK, HB⟩ := hrel
     have hl10_2 := (Kd.ta_ HO_10.out).1
     rw [hl10_2] at HO_10
     (try simp only [hl10_2])
     (try simp only [hl10_2] at HO_8)
     (try simp only [hl10_2] at HO_12)
     cases gk with
     | zero => exact absurd HA.out (by simp [da_.l1])
     | succ k2 =>
      have H := HA.out
      clear HA
      simp only [da_.l1] at H
      have HC17 := ba_.mk H
      clear H
      go_upto_region 9 with (fail)
      go_cut [44] (fun v44 wc => ∃ (kq : Nat) (x44_16 : Bool), v44 = .bool x44_16 ∧ ba_ (da_.j2 kq a1 a2 x8_1 x10_2 t244 x13_2 x44_16 s0_0 x1001_2 = some (r1, r2, r3)) ∧ ba_ (kq ≤ k2) ∧ ba_ (Kd.R (Kd.int .i64) 3 wc w.heap.size (fun k_ => some k_ ≠ ((.slice Ao15 x10_2.length co15) : Value).ownBlock ∧ some k_ ≠ (v245 : Value).ownBlock) (.slice Ao13 x8_1.length co13) x8_1) ∧ ba_ (Kd.R (Kd.int .i64) 3 wc w.heap.size (fun k_ => some k_ ≠ ((.slice Ao13 x8_1.length co13) : Value).ownBlock ∧ some k_ ≠ (v245 : Value).ownBlock) (.slice Ao15 x10_2.length co15) x10_2) ∧ ba_ (Kd.R (Kd.int .i64) 3 wc w.heap.size (fun k_ => some k_ ≠ ((.slice Ao13 x8_1.length co13) : Value).ownBlock ∧ some k_ ≠ ((.slice Ao15 x10_2.length co15) : Value).ownBlock) v245 t244) ∧ ba_ (ia_ w0 wc g s0_0 x1001_2) ∧ ba_ (xa_ w wc g none) ∧ ba_ (Below w0.heap.size w0 wc))
      case first =>
       have H := HC17.out
       clear HC17
       by_cases c18 : x13_2 < (wrap64 (a1 + a2))
       ·rw [if_pos c18] at H
        have c18b0 : decide (x13_2 < (wrap64 (a1 + a2))) = true := decide_eq_true c18
        clear c18
        (first | rw [c18b0] | (simp only [gc_, lc_]; rw [c18b0]) | skip)
        have H' := ba_.mk H
        clear H
        obtain ⟨Ao19, co19, eo19⟩ := Kd.fc_ HO_12.out
        subst eo19
        go_wp2
        go_meet
        case rel => exact ⟨_, (decide (x13_2 < (t244.length : Int))), (by first | rfl | (simp; done) | (simp [*]; done)), H', ⟨by have := HK1.out; have := HK2.out; first | omega | exact Nat.le_refl _⟩, ⟨by (try simp only [hl10_2]); (with_reducible repeat (first | apply Kd.la_ | apply Kd.ka_ | apply Kd.ma_)); exact HO_8.out⟩, ⟨by (try simp only [hl10_2]); (with_reducible repeat (first | apply Kd.la_ | apply Kd.ka_ | apply Kd.ma_)); exact HO_10.out⟩, ⟨by (try simp only [hl10_2]); (with_reducible repeat (first | apply Kd.la_ | apply Kd.ka_ | apply Kd.ma_)); exact HO_12.out⟩, ⟨by repeat (first | (with_reducible first | exact HI0.out | apply ia_.alloc | apply ia_.drewN | apply ia_.drew | apply ia_.ic_) | exact HI0.out)⟩, ⟨by repeat (first | (with_reducible first | exact HK.out | apply xa_.set_ | apply kb_ | apply rb_ | apply jb_) | exact HK.out)⟩, ⟨by repeat (first | (with_reducible first | exact HB.out | apply fa_ | apply ca_ | apply ga_ | refine qa_ ?_ (ia_.ge HI0.out)) | exact HB.out)⟩⟩
       ·rw [if_neg c18] at H
        have c18b0 : decide (x13_2 < (wrap64 (a1 + a2))) = false := decide_eq_false c18
        clear c18
        (first | rw [c18b0] | (simp only [gc_, lc_]; rw [c18b0]) | skip)
        have H' := ba_.mk H
        clear H
        go_wp2
        go_meet
        case rel => exact ⟨_, (false), (by first | rfl | (simp; done) | (simp [*]; done)), H', ⟨by have := HK1.out; have := HK2.out; first | omega | exact Nat.le_refl _⟩, ⟨by (try simp only [hl10_2]); (with_reducible repeat (first | apply Kd.la_ | apply Kd.ka_ | apply Kd.ma_)); exact HO_8.out⟩, ⟨by (try simp only [hl10_2]); (with_reducible repeat (first | apply Kd.la_ | apply Kd.ka_ | apply Kd.ma_)); exact HO_10.out⟩, ⟨by (try simp only [hl10_2]); (with_reducible repeat (first | apply Kd.la_ | apply Kd.ka_ | apply Kd.ma_)); exact HO_12.out⟩, ⟨by repeat (first | (with_reducible first | exact HI0.out | apply ia_.alloc | apply ia_.drewN | apply ia_.drew | apply ia_.ic_) | exact HI0.out)⟩, ⟨by repeat (first | (with_reducible first | exact HK.out | apply xa_.set_ | apply kb_ | apply rb_ | apply jb_) | exact HK.out)⟩, ⟨by repeat (first | (with_reducible first | exact HB.out | apply fa_ | apply ca_ | apply ga_ | refine qa_ ?_ (ia_.ge HI0.out)) | exact HB.out)⟩⟩
      case rest =>
       clear HC17
       try clear c1
       try clear c2
       try clear p2
       try clear c3
       try clear c4
       try clear c6
       try clear c6b0
       try clear p6
       try clear c8
       try clear c18
       try clear c18b0
       try clear p2
       try clear p6
       obtain ⟨kq, x44_16, rfl, HA, HJ16, HO_8, HO_10, HO_12, HI0, HK, HB⟩ := hcut
       cases kq with
       | zero => exact absurd HA.out (by simp [da_.j2])
       | succ kj16 =>
        have H := HA.out
        clear HA
        simp only [da_.j2] at H
        by_cases c20 : x44_16 = true
        ·subst c20
         have H1 : (if x13_2 < a1 then (if 0 ≤ x13_2 then (if x13_2 < (t244.length : Int) then (if 0 ≤ (rd t244 x13_2) then (if (rd t244 x13_2) < (x10_2.length : Int) then ((oa_.f s0_0 x1001_2 1 31).bind fun bt250 => (da_.l1 kj16 a1 a2 x8_1 (x10_2.set ((rd t244 x13_2) : Int).toNat (Go.bits .xor .i64 (rd x10_2 (rd t244 x13_2)) bt250.1)) t244 (wrap64 (x13_2 + 1)) s0_0 bt250.2)) else (none)) else (none)) else (none)) else (none)) else (if 0 ≤ x13_2 then (if x13_2 < (t244.length : Int) then (if 0 ≤ (rd t244 x13_2) then (if (rd t244 x13_2) < (x10_2.length : Int) then (da_.l1 kj16 a1 a2 x8_1 (x10_2.set ((rd t244 x13_2) : Int).toNat (-1)) t244 (wrap64 (x13_2 + 1)) s0_0 x1001_2) else (none)) else (none)) else (none)) else (none))) = some (r1, r2, r3) := by rw [if_pos rfl] at H; exact H
         clear H
         have H := H1
         clear H1
         by_cases c21 : x13_2 < a1
         ·rw [if_pos c21] at H
          have c21b0 : decide (x13_2 < a1) = true := decide_eq_true c21
          clear c21
          by_cases c22 : 0 ≤ x13_2
          ·rw [if_pos c22] at H
           have c22b0 : decide (0 ≤ x13_2) = true := decide_eq_true c22
           clear c22
           by_cases c23 : x13_2 < (t244.length : Int)
           ·rw [if_pos c23] at H
            have c23b0 : decide (x13_2 < (t244.length : Int)) = true := decide_eq_true c23
            clear c23
            by_cases c24 : 0 ≤ (rd t244 x13_2)
            ·rw [if_pos c24] at H
             have c24b0 : decide (0 ≤ (rd t244 x13_2)) = true := decide_eq_true c24
             clear c24
             by_cases c25 : (rd t244 x13_2) < (x10_2.length : Int)
             ·rw [if_pos c25] at H
              have c25b0 : decide ((rd t244 x13_2) < (x10_2.length : Int)) = true := decide_eq_true c25
              clear c25
              replace H := Option.bind_eq_some_iff.mp H
              obtain ⟨⟨t250, t251⟩, A260, H⟩ := H
              replace H : (da_.l1 kj16 a1 a2 x8_1 (x10_2.set ((rd t244 x13_2) : Int).toNat (Go.bits .xor .i64 (rd x10_2 (rd t244 x13_2)) t250)) t244 (wrap64 (x13_2 + 1)) s0_0 t251) = some (r1, r2, r3) := H
              have A26 := ba_.mk A260
              clear A260
              obtain ⟨y252, hy252⟩ : ∃ y_ : List Int, y_ = (x10_2.set ((rd t244 x13_2) : Int).toNat (Go.bits .xor .i64 (rd x10_2 (rd t244 x13_2)) t250)) := ⟨_, rfl⟩
              replace H : (da_.l1 kj16 a1 a2 x8_1 y252 t244 (wrap64 (x13_2 + 1)) s0_0 t251) = some (r1, r2, r3) := by first | (rw [hy252]; with_reducible exact H) | (have H2_ := (Option.bind_some _ _).symm.trans H; rw [hy252]; with_reducible exact H2_) | (have H2_ := (Option.bind_some _ _).symm.trans H; with_reducible exact H2_) | with_reducible exact H | (rw [hy252]; exact H) | exact H
              have Ny252 := ba_.mk hy252
              clear hy252
              have H' := ba_.mk H
              clear H
              try go_wp2
              have n0_ := ba_.mk (Kd.ma_ HO_8.out)
              have n1_ := ba_.mk (Kd.ma_ HO_10.out)
              have n2_ := ba_.mk (Kd.ma_ HO_12.out)
              have n3_ := ba_.mk (ia_.drew HI0.out)
              have n4_ := ba_.mk (rb_ HK.out)
              have n5_ := ba_.mk (ga_ HB.out)
              clear HO_8
              clear HO_10
              clear HO_12
              clear HI0
              clear HK
              clear HB
              have HO_8 := n0_
              have HO_10 := n1_
              have HO_12 := n2_
              have HI0 := n3_
              have HK := n4_
              have HB := n5_
              clear n0_ n1_ n2_ n3_ n4_ n5_
              obtain ⟨Ao29, co29, eo29⟩ := Kd.fc_ HO_12.out
              (first | subst eo29 | (injection eo29 with f1_ f2_ f3_; have f4_ := f1_.symm; have f5_ := f3_.symm; clear f1_ f2_ f3_; subst f4_; subst f5_))
              have p248 : 0 ≤ (x13_2 : Int) := of_decide_eq_true (by first | (with_reducible assumption) | assumption)
              have q248 : x13_2 < (t244.length : Int) := of_decide_eq_true (by first | (with_reducible assumption) | assumption)
              obtain ⟨ad248, e248, hx248_0⟩ := Kd.nd_ (Kd.ta_ HO_12.out).2.2 x13_2 p248 q248
              cases e248
              replace p248 := eq_true p248
              replace q248 := eq_true q248
              have p249 : 0 ≤ ((rd t244 x13_2) : Int) := of_decide_eq_true (by first | (with_reducible assumption) | assumption)
              have q249 : (rd t244 x13_2) < (x10_2.length : Int) := of_decide_eq_true (by first | (with_reducible assumption) | assumption)
              obtain ⟨ad249, e249, hx249_0⟩ := Kd.nd_ (Kd.ta_ HO_10.out).2.2 (rd t244 x13_2) p249 q249
              cases e249
              replace p249 := eq_true p249
              replace q249 := eq_true q249
              refine mi_ (n := 12) (S := fun w' => w'.cell? (ad248.add (x13_2).toNat) = some (.int .i64 (rd t244 x13_2)) ∧ w'.cell? (ad249.add ((rd t244 x13_2)).toNat) = some (.int .i64 (rd x10_2 (rd t244 x13_2)))) (ds := [11]) #[false, false, false, false, false, false, false, false, false, false, false, false] (by kernel_rfl) rfl rfl ⟨hx248_0, hx249_0⟩ (fun hHeld => ?_); refine ni_ da_.lv_ da_.ep_ (fun HT_ HW_ => ?_)
              generalize wc.drew = w28 at HO_8 HO_10 HO_12 HI0 HK HB hx248_0 hx249_0 hHeld ⊢
              refine id_ (i := 0) (N := some 50) (v := ?_) (a' := ?_) #[true, false, false, false, false, false, false, false, false, false, false, false] rfl rfl (td_ HT_.out (by kernel_rfl)) (fun _ _ _ h => h) (Or.inl ⟨by rfl, ?_⟩) ?_ ?_
              rotate_left
              ·intro w'
               go_simp
               with_reducible rfl
              rotate_left
              ·simp only [Act.put, List.setIfInBounds_toArray, List.set_cons_zero, List.set_cons_succ, gc_, lc_]
               rfl
              refine id_ (i := 1) (N := some 51) (v := ?_) (a' := ?_) #[true, true, false, false, false, false, false, false, false, false, false, false] rfl rfl (td_ HT_.out (by kernel_rfl)) (fun _ _ _ h => h) (Or.inl ⟨by rfl, ?_⟩) ?_ ?_
              rotate_left
              ·intro w'
               go_simp
               with_reducible rfl
              rotate_left
              ·simp only [Act.put, List.setIfInBounds_toArray, List.set_cons_zero, List.set_cons_succ, gc_, lc_]
               rfl
              refine id_ (i := 2) (N := some 52) (v := ?_) (a' := ?_) #[true, true, true, false, false, false, false, false, false, false, false, false] rfl rfl (td_ HT_.out (by kernel_rfl)) (fun _ _ _ h => h) (Or.inl ⟨by rfl, ?_⟩) ?_ ?_
              rotate_left
              ·intro w'
               go_simp
               with_reducible rfl
              rotate_left
              ·simp only [Act.put, List.setIfInBounds_toArray, List.set_cons_zero, List.set_cons_succ, gc_, lc_]
               rfl
              refine id_ (i := 3) (N := some 53) (v := ?_) (a' := ?_) #[true, true, true, true, false, false, false, false, false, false, false, false] rfl rfl (td_ HT_.out (by kernel_rfl)) (fun _ _ _ h => h) (Or.inl ⟨by rfl, ?_⟩) ?_ ?_
              rotate_left
              ·intro w'
               go_simp
               with_reducible rfl
              rotate_left
              ·simp only [Act.put, List.setIfInBounds_toArray, List.set_cons_zero, List.set_cons_succ, gc_, lc_]
               rfl
              refine id_ (i := 7) (N := some 57) (v := ?_) (a' := ?_) #[true, true, true, true, false, false, false, true, false, false, false, false] rfl rfl (td_ HT_.out (by kernel_rfl)) (fun _ _ _ h => h) (Or.inl ⟨by rfl, ?_⟩) ?_ ?_
              rotate_left
              ·intro w'
               go_simp
               with_reducible rfl
              rotate_left
              ·simp only [Act.put, List.setIfInBounds_toArray, List.set_cons_zero, List.set_cons_succ, gc_, lc_]
               rfl
              refine bh_ (i := 4) (N := some 54) (v := ?_) (a' := ?_) #[true, true, true, true, true, false, false, true, false, false, false, false] rfl rfl (vg_ HT_.out HW_.out (by kernel_rfl)) (fun _ _ _ h => h) (Or.inl ⟨by rfl, ?_⟩) hHeld ?_ ?_
              rotate_left
              ·rintro w' ⟨s0, s1⟩
               go_simp
               with_reducible rfl
              rotate_left
              ·simp only [Act.put, List.setIfInBounds_toArray, List.set_cons_zero, List.set_cons_succ, gc_, lc_]
               rfl
              refine id_ (i := 5) (N := some 55) (v := ?_) (a' := ?_) #[true, true, true, true, true, true, false, true, false, false, false, false] rfl rfl (td_ HT_.out (by kernel_rfl)) (fun _ _ _ h => h) (Or.inl ⟨by rfl, ?_⟩) ?_ ?_
              rotate_left
              ·intro w'
               go_simp
               with_reducible rfl
              rotate_left
              ·simp only [Act.put, List.setIfInBounds_toArray, List.set_cons_zero, List.set_cons_succ, gc_, lc_]
               rfl
              refine bh_ (i := 6) (N := some 56) (v := ?_) (a' := ?_) #[true, true, true, true, true, true, true, true, false, false, false, false] rfl rfl (vg_ HT_.out HW_.out (by kernel_rfl)) (fun _ _ _ h => h) (Or.inl ⟨by rfl, ?_⟩) hHeld ?_ ?_
              rotate_left
              ·rintro w' ⟨s0, s1⟩
               go_simp
               with_reducible rfl
              rotate_left
              ·simp only [Act.put, List.setIfInBounds_toArray, List.set_cons_zero, List.set_cons_succ, gc_, lc_]
               rfl
              refine one_ (i := 8) (N := some 58) #[true, true, true, true, true, true, true, true, true, false, false, false] rfl rfl (ah_ HT_.out (by kernel_rfl)) (by decide) (fun K hK => ?_)
              refine bk_ Try.func31 (by kernel_rfl) rfl #[.pointer (some ⟨g, 0, none⟩), .int .i64 1, .int .i64 31] (by rfl) rfl rfl (by (try simp only [List.map_toArray, List.map_cons, List.map_nil]); first | done | rfl | (simp only [List.length_drop, List.length_take]; rfl)) ?_
              with_reducible refine (oa_.calls g s0_0 x1001_2 1 31 t250 t251 w0 _ ?side1 ?side2 A26.out).mono ?_
              (case side1 => repeat (first | (with_reducible first | exact HI0.out | apply ia_.alloc | apply ia_.drewN | apply ia_.drew | apply ia_.ic_) | exact HI0.out))
              (case side2 => repeat (first | (with_reducible first | exact HB.out | apply fa_ | apply ca_ | apply ga_ | refine qa_ ?_ (ia_.ge HI0.out)) | exact HB.out))
              rintro e w30 ⟨rfl, hi, hb, hk⟩
              have HS0_ := zg_ hk (hHeld.1) (by first | (rw [ae_]; exact Kd.vf_ (ia_.fe_ HI0.out HO_12.out (by decide))) | (show (Addr.add _ _).block ≠ _; rw [ae_]; exact Kd.vf_ (ia_.fe_ HI0.out HO_12.out (by decide))) | exact Kd.vf_ (ia_.fe_ HI0.out HO_12.out (by decide)))
              have HS1_ := zg_ hk (hHeld.2) (by first | (rw [ae_]; exact Kd.vf_ (ia_.fe_ HI0.out HO_10.out (by decide))) | (show (Addr.add _ _).block ≠ _; rw [ae_]; exact Kd.vf_ (ia_.fe_ HI0.out HO_10.out (by decide))) | exact Kd.vf_ (ia_.fe_ HI0.out HO_10.out (by decide)))
              refine ⟨_, rfl, ?_⟩
              have n0_ := ba_.mk (Kd.bc_ (Kd.ne_ (ia_.apart (show ia_ w0 _ g s0_0 x1001_2 from by repeat (first | (with_reducible first | exact HI0.out | apply ia_.alloc | apply ia_.drewN | apply ia_.drew | apply ia_.ic_) | exact HI0.out)) (by (with_reducible repeat (first | apply Kd.la_ | apply Kd.ka_ | apply Kd.ma_)); exact HO_8.out) (by decide)) hk (fun _ h => h.2)) (fun _ h => h.1))
              have n1_ := ba_.mk (Kd.bc_ (Kd.ne_ (ia_.apart (show ia_ w0 _ g s0_0 x1001_2 from by repeat (first | (with_reducible first | exact HI0.out | apply ia_.alloc | apply ia_.drewN | apply ia_.drew | apply ia_.ic_) | exact HI0.out)) (by (with_reducible repeat (first | apply Kd.la_ | apply Kd.ka_ | apply Kd.ma_)); exact HO_10.out) (by decide)) hk (fun _ h => h.2)) (fun _ h => h.1))
              have n2_ := ba_.mk (Kd.bc_ (Kd.ne_ (ia_.apart (show ia_ w0 _ g s0_0 x1001_2 from by repeat (first | (with_reducible first | exact HI0.out | apply ia_.alloc | apply ia_.drewN | apply ia_.drew | apply ia_.ic_) | exact HI0.out)) (by (with_reducible repeat (first | apply Kd.la_ | apply Kd.ka_ | apply Kd.ma_)); exact HO_12.out) (by decide)) hk (fun _ h => h.2)) (fun _ h => h.1))
              have n3_ := ba_.mk (xa_.trans (by repeat (first | (with_reducible first | exact HK.out | apply xa_.set_ | apply kb_ | apply rb_ | apply jb_) | exact HK.out)) hk (.inl rfl))
              have n4_ := ba_.mk (hb)
              have n5_ := ba_.mk (hi)
              clear HO_8
              clear HO_10
              clear HO_12
              clear HK
              clear HB
              clear HI0
              have HO_8 := n0_
              have HO_10 := n1_
              have HO_12 := n2_
              have HK := n3_
              have HB := n4_
              have HI0 := n5_
              clear n0_ n1_ n2_ n3_ n4_ n5_
              (try clear hb)
              (try clear hb2)
              (try clear hk)
              (try clear hi)
              have p27 : 0 ≤ ((rd t244 x13_2) : Int) := of_decide_eq_true (by first | (with_reducible assumption) | assumption)
              have q27 : ((rd t244 x13_2) : Int) < ((x10_2.length : Int) : Int) := of_decide_eq_true (by first | (with_reducible assumption) | assumption)
              obtain ⟨go27, co27, eo27, gb27, gl27, cl27, HG27⟩ := Kd.yg_ HO_10.out (by omega)
              (first | cases eo27 | (injection eo27 with ea_ en_ ec_; (first | subst ea_ | (injection ea_ with ea_; subst ea_)); subst ec_; clear en_))
              have GB27 := ba_.mk gb27
              have GG27 := ba_.mk HG27
              clear gb27 gl27 HG27
              (first | simp only [add_plain] at hx249_0 | skip)
              obtain ⟨hx27_0, hf27_0⟩ := Kd.of_ 0 HO_10.out ((rd t244 x13_2) : Int) p27 q27
              replace p27 := eq_true p27
              replace q27 := eq_true q27
              have HN0_go27 := ba_.mk (show g ≠ go27 from by have h_ := ia_.fe_ HI0.out HO_10.out (by decide); intro e_; exact h_ (by rw [e_]; rfl))
              have HP31 := Kd.bm_ HO_10.out ((rd t244 x13_2) : Int) (Go.bits .xor .i64 (rd x10_2 (rd t244 x13_2)) t250)
              rw [← Ny252.out] at HP31
              have HQ31 := ba_.mk HP31
              clear HP31
              refine hK.out _ _ ⟨HS0_, HS1_⟩ (fun hHeld => ?_)
              clear hK K
              refine ej_ (a' := ?_) ?_ ?_
              rotate_left
              ·show Act.put _ (some 58) _ = _
               simp only [Act.put, List.setIfInBounds_toArray, List.set_cons_zero, List.set_cons_succ, gc_, lc_]
               rfl
              refine id_ (i := 9) (N := some 59) (v := ?_) (a' := ?_) #[true, true, true, true, true, true, true, true, true, true, false, false] rfl rfl (td_ HT_.out (by kernel_rfl)) (fun _ _ _ h => h) (Or.inl ⟨by rfl, ?_⟩) ?_ ?_
              rotate_left
              ·intro w'
               go_simp
               with_reducible rfl
              rotate_left
              ·simp only [Act.put, List.setIfInBounds_toArray, List.set_cons_zero, List.set_cons_succ, gc_, lc_]
               rfl
              refine id_ (i := 10) (N := some 60) (v := ?_) (a' := ?_) #[true, true, true, true, true, true, true, true, true, true, true, false] rfl rfl (td_ HT_.out (by kernel_rfl)) (fun _ _ _ h => h) (Or.inl ⟨by rfl, ?_⟩) ?_ ?_
              rotate_left
              ·intro w'
               go_simp
               with_reducible rfl
              rotate_left
              ·simp only [Act.put, List.setIfInBounds_toArray, List.set_cons_zero, List.set_cons_succ, gc_, lc_]
               rfl
              refine im_ (i := 11) (N := none) #[true, true, true, true, true, true, true, true, true, true, true, true] rfl rfl (ah_ HT_.out (by kernel_rfl)) (by decide) (fun K hK => ?_)
              refine lm_ (w1 := ?_) (by rfl) rfl ?_ ?_
              rotate_left
              ·go_simp
               rfl
              refine hK.out _ _ ?_
              clear hK K
              refine ik_ (jk_ HT_.out (by kernel_rfl)) ?_
              try go_wp2
              (try simp only [← hl10_2])
              go_roundg kj16
              case measure => have := HK1.out; have := HK2.out; have := HJ16.out; omega
              case rel => exact ⟨(y252), (wrap64 (x13_2 + 1)), (t251), (by first | rfl | (simp; done) | (simp [*]; done)), H', ⟨by have := HK1.out; have := HK2.out; have := HJ16.out; omega⟩, ⟨by (try simp only [hl10_2]); (with_reducible repeat (first | apply Kd.la_ | apply Kd.ka_ | apply Kd.ma_)); exact Kd.bc_ (Kd.em_ (p := ⟨go27, ((rd t244 x13_2) : Int).toNat, none⟩) (Kd.bc_ HO_8.out (fun k_ hk => (⟨hk, fun e_ => hk.1 (by rw [e_]; rfl)⟩ : _ ∧ k_ ≠ go27))) (fun _ hk => hk.2) (.int .i64 (Go.bits .xor .i64 (rd x10_2 (rd t244 x13_2)) t250))) (fun _ hk => ⟨hk.1.1, hk.1.2⟩)⟩, ⟨by (try simp only [hl10_2]); (with_reducible repeat (first | apply Kd.la_ | apply Kd.ka_ | apply Kd.ma_)); exact HQ31.out⟩, ⟨by (try simp only [hl10_2]); (with_reducible repeat (first | apply Kd.la_ | apply Kd.ka_ | apply Kd.ma_)); exact Kd.bc_ (Kd.em_ (p := ⟨go27, ((rd t244 x13_2) : Int).toNat, none⟩) (Kd.bc_ HO_12.out (fun k_ hk => (⟨hk, fun e_ => hk.2 (by rw [e_]; rfl)⟩ : _ ∧ k_ ≠ go27))) (fun _ hk => hk.2) (.int .i64 (Go.bits .xor .i64 (rd x10_2 (rd t244 x13_2)) t250))) (fun _ hk => ⟨hk.1.1, hk.1.2⟩)⟩, ⟨by repeat (first | (with_reducible first | exact HI0.out | apply ia_.alloc | apply ia_.drewN | apply ia_.drew | apply ia_.ic_ | refine ia_.far ?_ HN0_go27.out _) | exact HI0.out)⟩, ⟨by repeat (first | (with_reducible first | exact HK.out | apply xa_.set_ | apply kb_ | apply rb_ | apply jb_ | refine ro_ ?_ GB27.out _) | exact HK.out)⟩, ⟨by repeat (first | (with_reducible first | exact HB.out | apply fa_ | apply ca_ | apply ga_ | refine qa_ ?_ (Nat.le_trans HL.out GB27.out) | refine qa_ ?_ (ia_.ge HI0.out)) | exact HB.out)⟩⟩
             ·rw [if_neg c25] at H
              exact absurd H (by simp)
            ·rw [if_neg c24] at H
             exact absurd H (by simp)
           ·rw [if_neg c23] at H
            exact absurd H (by simp)
          ·rw [if_neg c22] at H
           exact absurd H (by simp)
         ·rw [if_neg c21] at H
          have c21b0 : decide (x13_2 < a1) = false := decide_eq_false c21
          clear c21
          by_cases c32 : 0 ≤ x13_2
          ·rw [if_pos c32] at H
           have c32b0 : decide (0 ≤ x13_2) = true := decide_eq_true c32
           clear c32
           by_cases c33 : x13_2 < (t244.length : Int)
           ·rw [if_pos c33] at H
            have c33b0 : decide (x13_2 < (t244.length : Int)) = true := decide_eq_true c33
            clear c33
            by_cases c34 : 0 ≤ (rd t244 x13_2)
            ·rw [if_pos c34] at H
             have c34b0 : decide (0 ≤ (rd t244 x13_2)) = true := decide_eq_true c34
             clear c34
             by_cases c35 : (rd t244 x13_2) < (x10_2.length : Int)
             ·rw [if_pos c35] at H
              have c35b0 : decide ((rd t244 x13_2) < (x10_2.length : Int)) = true := decide_eq_true c35
              clear c35
              obtain ⟨y254, hy254⟩ : ∃ y_ : List Int, y_ = (x10_2.set ((rd t244 x13_2) : Int).toNat (-1)) := ⟨_, rfl⟩
              replace H : (da_.l1 kj16 a1 a2 x8_1 y254 t244 (wrap64 (x13_2 + 1)) s0_0 x1001_2) = some (r1, r2, r3) := by first | (rw [hy254]; with_reducible exact H) | (have H2_ := (Option.bind_some _ _).symm.trans H; rw [hy254]; with_reducible exact H2_) | (have H2_ := (Option.bind_some _ _).symm.trans H; with_reducible exact H2_) | with_reducible exact H | (rw [hy254]; exact H) | exact H
              have Ny254 := ba_.mk hy254
              clear hy254
              have H' := ba_.mk H
              clear H
              obtain ⟨Ao37, co37, eo37⟩ := Kd.fc_ HO_12.out
              subst eo37
              have p253 : 0 ≤ (x13_2 : Int) := of_decide_eq_true (by first | (with_reducible assumption) | assumption)
              have q253 : x13_2 < (t244.length : Int) := of_decide_eq_true (by first | (with_reducible assumption) | assumption)
              obtain ⟨ad253, e253, hx253_0⟩ := Kd.nd_ (Kd.ta_ HO_12.out).2.2 x13_2 p253 q253
              cases e253
              replace p253 := eq_true p253
              replace q253 := eq_true q253
              have p36 : 0 ≤ ((rd t244 x13_2) : Int) := of_decide_eq_true (by first | (with_reducible assumption) | assumption)
              have q36 : ((rd t244 x13_2) : Int) < ((x10_2.length : Int) : Int) := of_decide_eq_true (by first | (with_reducible assumption) | assumption)
              obtain ⟨go36, co36, eo36, gb36, gl36, cl36, HG36⟩ := Kd.yg_ HO_10.out (by omega)
              (first | cases eo36 | (injection eo36 with ea_ en_ ec_; (first | subst ea_ | (injection ea_ with ea_; subst ea_)); subst ec_; clear en_))
              have GB36 := ba_.mk gb36
              have GG36 := ba_.mk HG36
              clear gb36 gl36 HG36
              obtain ⟨hx36_0, hf36_0⟩ := Kd.of_ 0 HO_10.out ((rd t244 x13_2) : Int) p36 q36
              replace p36 := eq_true p36
              replace q36 := eq_true q36
              have HP38 := Kd.am_ HO_10.out ((rd t244 x13_2) : Int) (-1)
              go_wp2_with (first | ((with_reducible refine ch_ (t := 3) (p := 66) rfl ?_); refine mg_ (t := 3) (p := 66) (v := ?vo_w39) (w1 := (wc.setCell ⟨go36, ((rd t244 x13_2) : Int).toNat, none⟩ (.int .i64 (-1)))) ?hg ?ho ?hn ?hr ?_; (case ho => rfl); (case hg => rfl); (case hn => rfl); (case hr => first | (go_simp; done) | (go_simp; rfl)); intro w39 hw; have hg : wc.grownBy w39 (some go36) := (by rw [hw]; exact HP38.2); have hp_ : Kd.R (Kd.int .i64) 3 w39 w.heap.size (fun k_ => some k_ ≠ (.slice Ao13 x8_1.length co13 : Value).ownBlock ∧ some k_ ≠ (.slice (some ad253) t244.length co37 : Value).ownBlock) (.slice (some ⟨go36, 0, none⟩) x10_2.length co15) y254 := (by rw [hw, Ny254.out]; exact HP38.1); clear HP38; have n0_ := ba_.mk (Kd.wd_ (v := (.slice (some ⟨go36, 0, none⟩) x10_2.length co15)) (v1 := (.slice (some ⟨go36, 0, none⟩) x10_2.length co15)) (ok := (fun k_ => some k_ ≠ (.slice (some ad253) t244.length co37 : Value).ownBlock)) (by (with_reducible repeat (first | apply Kd.la_ | apply Kd.ka_ | apply Kd.ma_)); exact Kd.bc_ HO_8.out (fun _ hk => ⟨hk.2, hk.1⟩)) hg (.inl rfl)); have n1_ := ba_.mk (hp_); have n2_ := ba_.mk (Kd.wd_ (v := (.slice (some ⟨go36, 0, none⟩) x10_2.length co15)) (v1 := (.slice (some ⟨go36, 0, none⟩) x10_2.length co15)) (ok := (fun k_ => some k_ ≠ (.slice Ao13 x8_1.length co13 : Value).ownBlock)) (by (with_reducible repeat (first | apply Kd.la_ | apply Kd.ka_ | apply Kd.ma_)); exact HO_12.out) hg (.inl rfl)); have n3_ := ba_.mk (ia_.grown (by repeat (first | (with_reducible first | exact HI0.out | apply ia_.alloc | apply ia_.drewN | apply ia_.drew | apply ia_.ic_) | exact HI0.out)) hg (ia_.fe_ HI0.out HO_10.out (by decide))); have n4_ := ba_.mk ((by rw [hw]; exact qa_ (HB.out) (Nat.le_trans HL.out GB36.out) : Below w0.heap.size w0 w39)); have n5_ := ba_.mk (xa_.trans (by repeat (first | (with_reducible first | exact HK.out | apply xa_.set_ | apply kb_ | apply rb_ | apply jb_) | exact HK.out)) (xa_.mf_ hg g) (Kd.eh_ HO_10.out)); clear HO_8; clear HO_10; clear HO_12; clear HI0; clear HB; clear HK; have HO_8 := n0_; have HO_10 := n1_; have HO_12 := n2_; have HI0 := n3_; have HB := n4_; have HK := n5_; clear n0_ n1_ n2_ n3_ n4_ n5_; clear hg hw hp_))
              (try simp only [← hl10_2])
              go_roundg kj16
              case measure => have := HK1.out; have := HK2.out; have := HJ16.out; omega
              case rel => exact ⟨(y254), (wrap64 (x13_2 + 1)), (x1001_2), (by first | rfl | (simp; done) | (simp [*]; done)), H', ⟨by have := HK1.out; have := HK2.out; have := HJ16.out; omega⟩, ⟨by (try simp only [hl10_2]); (with_reducible repeat (first | apply Kd.la_ | apply Kd.ka_ | apply Kd.ma_)); exact Kd.bc_ HO_8.out (fun _ hk => ⟨hk.2, hk.1⟩)⟩, ⟨by (try simp only [hl10_2]); (with_reducible repeat (first | apply Kd.la_ | apply Kd.ka_ | apply Kd.ma_)); exact HO_10.out⟩, ⟨by (try simp only [hl10_2]); (with_reducible repeat (first | apply Kd.la_ | apply Kd.ka_ | apply Kd.ma_)); exact HO_12.out⟩, ⟨by repeat (first | (with_reducible first | exact HI0.out | apply ia_.alloc | apply ia_.drewN | apply ia_.drew | apply ia_.ic_) | exact HI0.out)⟩, ⟨by repeat (first | (with_reducible first | exact HK.out | apply xa_.set_ | apply kb_ | apply rb_ | apply jb_) | exact HK.out)⟩, ⟨by repeat (first | (with_reducible first | exact HB.out | apply fa_ | apply ca_ | apply ga_ | refine qa_ ?_ (ia_.ge HI0.out)) | exact HB.out)⟩⟩
             ·rw [if_neg c35] at H
              exact absurd H (by simp)
            ·rw [if_neg c34] at H
             exact absurd H (by simp)
           ·rw [if_neg c33] at H
            exact absurd H (by simp)
          ·rw [if_neg c32] at H
           exact absurd H (by simp)
        ·replace c20 := Bool.eq_false_iff.mpr c20
         subst c20
         have H1 : (some (x10_2, x8_1, x1001_2)) = some (r1, r2, r3) := by rw [if_neg (show ¬ (false = true) by decide)] at H; exact H
         clear H
         have H := H1
         clear H1
         simp only [Option.some.injEq, Prod.mk.injEq] at H
         obtain ⟨rfl, rfl, rfl⟩ := H
         go_wp2
         go_ret2
         exact ⟨_, _, by first | rfl | (simp [bb_, cb_] <;> rfl) | (simp [*, bb_, cb_] <;> rfl), by (with_reducible repeat (first | apply Kd.la_ | apply Kd.ka_ | apply Kd.ma_)); exact Kd.bc_ HO_10.out (fun _ hk => hk.1), by (with_reducible repeat (first | apply Kd.la_ | apply Kd.ka_ | apply Kd.ma_)); exact Kd.bc_ HO_8.out (fun _ hk => hk.1), by repeat (first | (with_reducible first | exact HI0.out | apply ia_.alloc | apply ia_.drewN | apply ia_.drew | apply ia_.ic_) | exact HI0.out), by repeat (first | (with_reducible first | exact HB.out | apply fa_ | apply ca_ | apply ga_ | refine qa_ ?_ (ia_.ge HI0.out)) | exact HB.out), by repeat (first | (with_reducible first | exact HK.out | apply xa_.set_ | apply kb_ | apply rb_ | apply jb_) | exact HK.out)⟩
end Go.Proofs.Ytpkhgapifnjbeaa.Y
end
section
namespace Go.Proofs.Ytpkhgapifnjbeaa.Y
open Go.RowKit Go.Proofs.Ytpkhgapifnjbeaa.G Go.Proofs.Ytpkhgapifnjbeaa.Rs Go.Proofs.YtpkhgapifnjbeaaW.PrintWords Go.Proofs.YtpkhgapifnjbeaaW.PrintLast Go.Proofs.YtpkhgapifnjbeaaW.PrintMore
attribute [local go_sem] dd_ fd_ rd_ sd_ uc_ vc_ ed_ gd_
set_option linter.unusedVariables false
set_option linter.unusedSimpArgs false
mutual
def za_.j0 : Nat → List Int → Int → List Int → Bool → Option (Bool)
 | 0, _, _, _, _ => none
 | k + 1, x4, x7, x9, x60 => if x60 = true then (some false) else (za_.l0 k x4 x7 x9 0 0 0)
def za_.l0 : Nat → List Int → Int → List Int → Int → Int → Int → Option (Bool)
 | 0, _, _, _, _, _, _ => none
 | k + 1, x4, x7, x9, x11, x12, x13 => if x13 < (x4.length : Int) then (if 0 ≤ x13 then (if (rd x4 x13) = (-1) then (za_.l0 k x4 x7 x9 x11 (wrap64 (x12 + 1)) (wrap64 (x13 + 1))) else (if x13 < (x9.length : Int) then (if (rd x4 x13) = (rd x9 x13) then (za_.l0 k x4 x7 x9 x11 x12 (wrap64 (x13 + 1))) else (za_.l0 k x4 x7 x9 (wrap64 (x11 + 1)) x12 (wrap64 (x13 + 1)))) else (none))) else (none)) else (if x11 = x7 then (if (wrap64 ((wrap64 (2 * x11)) + x12)) ≤ 6 then ((ha_.f k).bind fun t322 => (some t322)) else (some false)) else (some false))
end
def za_.f (k : Nat) (l0 : List Int) : Option (Bool) := (sb_.f l0).bind fun bt298 => ((oa_.f bt298.1 bt298.2 0 6).bind fun bt301 => ((oa_.f bt298.1 bt301.2 0 3).bind fun bt303 => ((da_.f k bt298.1 bt303.2 bt301.1 bt303.1).bind fun bt305 => ((je_.f bt305.1).bind fun bt312 => (if bt312.2.2 = 0 then ((ge_.f bt312.1).bind fun bt318 => (if bt318.2 = 0 then (za_.j0 k bt305.1 bt312.2.1 bt318.1 ((bt318.1.length : Int) != (bt305.1.length : Int))) else (za_.j0 k bt305.1 bt312.2.1 bt318.1 true))) else (if bt312.2.2 = 25 then (if (bt312.1.length : Int) = 0 then (if bt312.2.1 = 0 then ((ha_.f k).bind fun t317 => (some t317)) else (some false)) else (some false)) else (some false)))))))
theorem za_.xc_ : ∀ k, (∀ y0 y1 y2 y3, LeO (za_.j0 k y0 y1 y2 y3) (za_.j0 (k + 1) y0 y1 y2 y3)) ∧ (∀ y0 y1 y2 y3 y4 y5, LeO (za_.l0 k y0 y1 y2 y3 y4 y5) (za_.l0 (k + 1) y0 y1 y2 y3 y4 y5))
 | 0 => ⟨fun _ _ _ _ r h => by simp [za_.j0] at h, fun _ _ _ _ _ _ r h => by simp [za_.l0] at h⟩
 | k + 1 => by
  obtain ⟨ih0, ih1⟩ := za_.xc_ k
  refine ⟨?_, ?_⟩
  ·intro y0 y1 y2 y3
   unfold za_.j0
   repeat' first
   | (with_reducible exact ih0 _ _ _ _)
   | (with_reducible exact ih1 _ _ _ _ _ _)
   | (with_reducible exact ha_.mono _)
   | (with_reducible exact da_.mono _ _ _ _ _)
   | (with_reducible exact LeO.refl _)
   | (with_reducible exact LeO.none _)
   | (with_reducible refine LeO.ite ?_ ?_)
   | (with_reducible refine LeO.bind ?_ (fun _ => ?_))
   | exact ih0 _ _ _ _
   | exact ih1 _ _ _ _ _ _
   | exact ha_.mono _
   | exact da_.mono _ _ _ _ _
   | exact LeO.none _
   | refine LeO.ite ?_ ?_
   | refine LeO.bind ?_ (fun _ => ?_)
  ·intro y0 y1 y2 y3 y4 y5
   unfold za_.l0
   repeat' first
   | (with_reducible exact ih0 _ _ _ _)
   | (with_reducible exact ih1 _ _ _ _ _ _)
   | (with_reducible exact ha_.mono _)
   | (with_reducible exact da_.mono _ _ _ _ _)
   | (with_reducible exact LeO.refl _)
   | (with_reducible exact LeO.none _)
   | (with_reducible refine LeO.ite ?_ ?_)
   | (with_reducible refine LeO.bind ?_ (fun _ => ?_))
   | exact ih0 _ _ _ _
   | exact ih1 _ _ _ _ _ _
   | exact ha_.mono _
   | exact da_.mono _ _ _ _ _
   | exact LeO.none _
   | refine LeO.ite ?_ ?_
   | refine LeO.bind ?_ (fun _ => ?_)
theorem za_.mono : ∀ a0 k, LeO (za_.f k a0) (za_.f (k + 1) a0) := by
 intro a0 k
 obtain ⟨ih0, ih1⟩ := za_.xc_ k
 unfold za_.f
 repeat' first
   | (with_reducible exact ih0 _ _ _ _)
   | (with_reducible exact ih1 _ _ _ _ _ _)
   | (with_reducible exact ha_.mono _)
   | (with_reducible exact da_.mono _ _ _ _ _)
   | (with_reducible exact LeO.refl _)
   | (with_reducible exact LeO.none _)
   | (with_reducible refine LeO.ite ?_ ?_)
   | (with_reducible refine LeO.bind ?_ (fun _ => ?_))
   | exact ih0 _ _ _ _
   | exact ih1 _ _ _ _ _ _
   | exact ha_.mono _
   | exact da_.mono _ _ _ _ _
   | exact LeO.none _
   | refine LeO.ite ?_ ?_
   | refine LeO.bind ?_ (fun _ => ?_)
set_option maxHeartbeats 8000000 in
set_option maxRecDepth 100000 in
theorem za_.calls (k : Nat) (A0 : Option Addr) (c0 : Nat) (l0 : List Int) (r : Bool) (w : World) (hr0 : Kd.C (Kd.int .i64) w A0 l0.length l0) (hc0 : l0.length ≤ c0) (h : za_.f k l0 = some r) (hr_ : r = true) :
  Calls Try.prog 10 #[.slice A0 l0.length c0] w fun e w' => e = .returned (.bool r) ∧ Below w.heap.size w w' := by
 have HRT := ba_.mk hr_
 clear hr_
 have HR0 := ba_.mk hr0
 have HC0 := ba_.mk hc0
 clear hr0 hc0
 have HB := ba_.mk (Below.refl w.heap.size w)
 have H : ((sb_.f l0).bind fun bt298 => ((oa_.f bt298.1 bt298.2 0 6).bind fun bt301 => ((oa_.f bt298.1 bt301.2 0 3).bind fun bt303 => ((da_.f k bt298.1 bt303.2 bt301.1 bt303.1).bind fun bt305 => ((je_.f bt305.1).bind fun bt312 => (if bt312.2.2 = 0 then ((ge_.f bt312.1).bind fun bt318 => (if bt318.2 = 0 then (za_.j0 k bt305.1 bt312.2.1 bt318.1 ((bt318.1.length : Int) != (bt305.1.length : Int))) else (za_.j0 k bt305.1 bt312.2.1 bt318.1 true))) else (if bt312.2.2 = 25 then (if (bt312.1.length : Int) = 0 then (if bt312.2.1 = 0 then ((ha_.f k).bind fun t317 => (some t317)) else (some false)) else (some false)) else (some false)))))))) = some r := h
 clear h
 replace H := Option.bind_eq_some_iff.mp H
 obtain ⟨⟨t298, t299⟩, A20, H⟩ := H
 replace H : ((oa_.f t298 t299 0 6).bind fun bt301 => ((oa_.f t298 bt301.2 0 3).bind fun bt303 => ((da_.f k t298 bt303.2 bt301.1 bt303.1).bind fun bt305 => ((je_.f bt305.1).bind fun bt312 => (if bt312.2.2 = 0 then ((ge_.f bt312.1).bind fun bt318 => (if bt318.2 = 0 then (za_.j0 k bt305.1 bt312.2.1 bt318.1 ((bt318.1.length : Int) != (bt305.1.length : Int))) else (za_.j0 k bt305.1 bt312.2.1 bt318.1 true))) else (if bt312.2.2 = 25 then (if (bt312.1.length : Int) = 0 then (if bt312.2.1 = 0 then ((ha_.f k).bind fun t317 => (some t317)) else (some false)) else (some false)) else (some false))))))) = some r := H
 have A2 := ba_.mk A20
 clear A20
 replace H := Option.bind_eq_some_iff.mp H
 obtain ⟨⟨t301, t302⟩, A30, H⟩ := H
 replace H : ((oa_.f t298 t302 0 3).bind fun bt303 => ((da_.f k t298 bt303.2 t301 bt303.1).bind fun bt305 => ((je_.f bt305.1).bind fun bt312 => (if bt312.2.2 = 0 then ((ge_.f bt312.1).bind fun bt318 => (if bt318.2 = 0 then (za_.j0 k bt305.1 bt312.2.1 bt318.1 ((bt318.1.length : Int) != (bt305.1.length : Int))) else (za_.j0 k bt305.1 bt312.2.1 bt318.1 true))) else (if bt312.2.2 = 25 then (if (bt312.1.length : Int) = 0 then (if bt312.2.1 = 0 then ((ha_.f k).bind fun t317 => (some t317)) else (some false)) else (some false)) else (some false)))))) = some r := H
 have A3 := ba_.mk A30
 clear A30
 replace H := Option.bind_eq_some_iff.mp H
 obtain ⟨⟨t303, t304⟩, A40, H⟩ := H
 replace H : ((da_.f k t298 t304 t301 t303).bind fun bt305 => ((je_.f bt305.1).bind fun bt312 => (if bt312.2.2 = 0 then ((ge_.f bt312.1).bind fun bt318 => (if bt318.2 = 0 then (za_.j0 k bt305.1 bt312.2.1 bt318.1 ((bt318.1.length : Int) != (bt305.1.length : Int))) else (za_.j0 k bt305.1 bt312.2.1 bt318.1 true))) else (if bt312.2.2 = 25 then (if (bt312.1.length : Int) = 0 then (if bt312.2.1 = 0 then ((ha_.f k).bind fun t317 => (some t317)) else (some false)) else (some false)) else (some false))))) = some r := H
 have A4 := ba_.mk A40
 clear A40
 replace H := Option.bind_eq_some_iff.mp H
 obtain ⟨⟨t305, t308, t311⟩, A50, H⟩ := H
 replace H : ((je_.f t305).bind fun bt312 => (if bt312.2.2 = 0 then ((ge_.f bt312.1).bind fun bt318 => (if bt318.2 = 0 then (za_.j0 k t305 bt312.2.1 bt318.1 ((bt318.1.length : Int) != (t305.length : Int))) else (za_.j0 k t305 bt312.2.1 bt318.1 true))) else (if bt312.2.2 = 25 then (if (bt312.1.length : Int) = 0 then (if bt312.2.1 = 0 then ((ha_.f k).bind fun t317 => (some t317)) else (some false)) else (some false)) else (some false)))) = some r := H
 have A5 := ba_.mk A50
 clear A50
 replace H := Option.bind_eq_some_iff.mp H
 obtain ⟨⟨t312, t313, t314⟩, A60, H⟩ := H
 replace H : (if t314 = 0 then ((ge_.f t312).bind fun bt318 => (if bt318.2 = 0 then (za_.j0 k t305 t313 bt318.1 ((bt318.1.length : Int) != (t305.length : Int))) else (za_.j0 k t305 t313 bt318.1 true))) else (if t314 = 25 then (if (t312.length : Int) = 0 then (if t313 = 0 then ((ha_.f k).bind fun t317 => (some t317)) else (some false)) else (some false)) else (some false))) = some r := H
 have A6 := ba_.mk A60
 clear A60
 by_cases c7 : t314 = 0
 ·rw [if_pos c7] at H
  have c7b0 : (t314 == 0) = true := beq_iff_eq.mpr c7
  have c7b1 : (t314 != 0) = false := bne_eq_false_iff_eq.mpr c7
  clear c7
  replace H := Option.bind_eq_some_iff.mp H
  obtain ⟨⟨t318, t319⟩, A80, H⟩ := H
  replace H : (if t319 = 0 then (za_.j0 k t305 t313 t318 ((t318.length : Int) != (t305.length : Int))) else (za_.j0 k t305 t313 t318 true)) = some r := H
  have A8 := ba_.mk A80
  clear A80
  have HC9 := ba_.mk H
  clear H
  go_enter Try.func10, Try.ntmps10
  go_upto_region 7 with (first | (go_at_call 22; (with_reducible refine (sb_.calls _ _ l0 t298 t299 w _ ?side1 ?side2 ?side3 A2.out).mono ?_); (case side1 => repeat (first | (with_reducible first | exact HB.out | apply fa_ | apply ca_ | apply ga_) | exact HB.out)); (case side2 => exact HR0.out); (case side3 => exact HC0.out); rintro e w10 ⟨g300, rfl, hi, hb, hb2⟩; have n0_ := ba_.mk (hb); have n1_ := ba_.mk (hi); clear HB; have HB := n0_; have HI300 := n1_; clear n0_ n1_; (try clear hb); (try clear hb2); (try clear hk); (try clear hi)) | (go_at_call 31; (with_reducible refine (oa_.calls g300 t298 t299 0 6 t301 t302 w _ ?side1 ?side2 A3.out).mono ?_); (case side1 => repeat (first | (with_reducible first | exact HI300.out | apply ia_.alloc | apply ia_.drewN | apply ia_.drew | apply ia_.ic_) | exact HI300.out)); (case side2 => repeat (first | (with_reducible first | exact HB.out | apply fa_ | apply ca_ | apply ga_ | refine qa_ ?_ (ia_.ge HI300.out)) | exact HB.out)); rintro e w11 ⟨rfl, hi, hb, hk⟩; have n0_ := ba_.mk (hb); have n1_ := ba_.mk (hi); clear HB; clear HI300; have HB := n0_; have HI300 := n1_; clear n0_ n1_; (try clear hb); (try clear hb2); (try clear hk); (try clear hi)) | (go_at_call 31; (with_reducible refine (oa_.calls g300 t298 t302 0 3 t303 t304 w _ ?side1 ?side2 A4.out).mono ?_); (case side1 => repeat (first | (with_reducible first | exact HI300.out | apply ia_.alloc | apply ia_.drewN | apply ia_.drew | apply ia_.ic_) | exact HI300.out)); (case side2 => repeat (first | (with_reducible first | exact HB.out | apply fa_ | apply ca_ | apply ga_ | refine qa_ ?_ (ia_.ge HI300.out)) | exact HB.out)); rintro e w12 ⟨rfl, hi, hb, hk⟩; have n0_ := ba_.mk (hb); have n1_ := ba_.mk (hi); clear HB; clear HI300; have HB := n0_; have HI300 := n1_; clear n0_ n1_; (try clear hb); (try clear hb2); (try clear hk); (try clear hi)) | (go_at_call 30; (with_reducible refine (da_.calls k g300 t298 t304 t301 t303 t305 t308 t311 w _ ?side1 ?side2 A5.out).mono ?_); (case side1 => repeat (first | (with_reducible first | exact HI300.out | apply ia_.alloc | apply ia_.drewN | apply ia_.drew | apply ia_.ic_) | exact HI300.out)); (case side2 => repeat (first | (with_reducible first | exact HB.out | apply fa_ | apply ca_ | apply ga_ | refine qa_ ?_ (ia_.ge HI300.out)) | exact HB.out)); rintro e w13 ⟨v306, v309, rfl, ho0, ho1, hi, hb, hk⟩; have n0_ := ba_.mk (Kd.wc_ ho0 (eb_ (by repeat (first | (with_reducible first | exact HB.out | apply fa_ | apply ca_ | apply ga_ | refine qa_ ?_ (ia_.ge HI300.out)) | exact HB.out)))); have n1_ := ba_.mk (Kd.wc_ ho1 (eb_ (by repeat (first | (with_reducible first | exact HB.out | apply fa_ | apply ca_ | apply ga_ | refine qa_ ?_ (ia_.ge HI300.out)) | exact HB.out)))); have n2_ := ba_.mk (hb); have n3_ := ba_.mk (hi); clear HB; clear HI300; have HO307 := n0_; have HO310 := n1_; have HB := n2_; have HI300 := n3_; clear n0_ n1_ n2_ n3_; (try clear hb); (try clear hb2); (try clear hk); (try clear hi); (try clear ho0); (try clear ho1); obtain ⟨Ao14, co14, eo14⟩ := Kd.fc_ HO307.out; subst eo14) | (go_at_call 34; (with_reducible refine (je_.calls _ _ t305 t312 t313 t314 _ ?side1 ?side2 A6.out).mono ?_); (case side1 => repeat (first | exact (Kd.ta_ HO307.out).2.2 | (with_reducible refine Kd.yb_ ?_ _) | (with_reducible refine Kd.zb_ ?_ _) | (with_reducible refine Kd.jc_ ?_))); (case side2 => exact (Kd.ta_ HO307.out).2.1); rintro e w15 ⟨v315, rfl, ho0, hb⟩; have n0_ := ba_.mk (Kd.wb_ (by (with_reducible repeat (first | apply Kd.la_ | apply Kd.ka_ | apply Kd.ma_)); exact HO307.out) (Kd.rc_ ho0) hb); have n1_ := ba_.mk (Kd.wb_ (by (with_reducible repeat (first | apply Kd.la_ | apply Kd.ka_ | apply Kd.ma_)); exact HO310.out) (Kd.rc_ ho0) hb); have n2_ := ba_.mk (Kd.wc_ (Kd.qc_ (Kd.qc_ ho0 (Kd.R_lt (by (with_reducible repeat (first | apply Kd.la_ | apply Kd.ka_ | apply Kd.ma_)); exact HO307.out))) (Kd.R_lt (by (with_reducible repeat (first | apply Kd.la_ | apply Kd.ka_ | apply Kd.ma_)); exact HO310.out))) (eb_ (by repeat (first | (with_reducible first | exact HB.out | apply fa_ | apply ca_ | apply ga_ | refine qa_ ?_ (ia_.ge HI300.out)) | exact HB.out)))); have n3_ := ba_.mk (ia_.below (by repeat (first | (with_reducible first | exact HI300.out | apply ia_.alloc | apply ia_.drewN | apply ia_.drew | apply ia_.ic_) | exact HI300.out)) hb); have n4_ := ba_.mk (gb_ (by repeat (first | (with_reducible first | exact HB.out | apply fa_ | apply ca_ | apply ga_ | refine qa_ ?_ (ia_.ge HI300.out)) | exact HB.out)) hb); clear HO307; clear HO310; clear HI300; clear HB; have HO307 := n0_; have HO310 := n1_; have HO316 := n2_; have HI300 := n3_; have HB := n4_; clear n0_ n1_ n2_ n3_ n4_; (try clear hb); (try clear hb2); (try clear hk); (try clear hi); (try clear ho0); obtain ⟨Ao16, co16, eo16⟩ := Kd.fc_ HO316.out; subst eo16) | (go_at_call 27; (with_reducible refine (ge_.calls _ _ t312 t318 t319 _ ?side1 ?side2 A8.out).mono ?_); (case side1 => repeat (first | exact (Kd.ta_ HO316.out).2.2 | (with_reducible refine Kd.yb_ ?_ _) | (with_reducible refine Kd.zb_ ?_ _) | (with_reducible refine Kd.jc_ ?_))); (case side2 => exact (Kd.ta_ HO316.out).2.1); rintro e w17 ⟨v320, rfl, ho0, hb⟩; have n0_ := ba_.mk (Kd.wb_ (by (with_reducible repeat (first | apply Kd.la_ | apply Kd.ka_ | apply Kd.ma_)); exact HO307.out) (Kd.rc_ ho0) hb); have n1_ := ba_.mk (Kd.wb_ (by (with_reducible repeat (first | apply Kd.la_ | apply Kd.ka_ | apply Kd.ma_)); exact HO310.out) (Kd.rc_ ho0) hb); have n2_ := ba_.mk (Kd.wb_ (by (with_reducible repeat (first | apply Kd.la_ | apply Kd.ka_ | apply Kd.ma_)); exact HO316.out) (Kd.rc_ ho0) hb); have n3_ := ba_.mk (Kd.wc_ (Kd.qc_ (Kd.qc_ (Kd.qc_ ho0 (Kd.R_lt (by (with_reducible repeat (first | apply Kd.la_ | apply Kd.ka_ | apply Kd.ma_)); exact HO307.out))) (Kd.R_lt (by (with_reducible repeat (first | apply Kd.la_ | apply Kd.ka_ | apply Kd.ma_)); exact HO310.out))) (Kd.R_lt (by (with_reducible repeat (first | apply Kd.la_ | apply Kd.ka_ | apply Kd.ma_)); exact HO316.out))) (eb_ (by repeat (first | (with_reducible first | exact HB.out | apply fa_ | apply ca_ | apply ga_ | refine qa_ ?_ (ia_.ge HI300.out)) | exact HB.out)))); have n4_ := ba_.mk (ia_.below (by repeat (first | (with_reducible first | exact HI300.out | apply ia_.alloc | apply ia_.drewN | apply ia_.drew | apply ia_.ic_) | exact HI300.out)) hb); have n5_ := ba_.mk (gb_ (by repeat (first | (with_reducible first | exact HB.out | apply fa_ | apply ca_ | apply ga_ | refine qa_ ?_ (ia_.ge HI300.out)) | exact HB.out)) hb); clear HO307; clear HO310; clear HO316; clear HI300; clear HB; have HO307 := n0_; have HO310 := n1_; have HO316 := n2_; have HO321 := n3_; have HI300 := n4_; have HB := n5_; clear n0_ n1_ n2_ n3_ n4_ n5_; (try clear hb); (try clear hb2); (try clear hk); (try clear hi); (try clear ho0)))
  repeat (go_quiet (first | (go_at_call 22; (with_reducible refine (sb_.calls _ _ l0 t298 t299 w _ ?side1 ?side2 ?side3 A2.out).mono ?_); (case side1 => repeat (first | (with_reducible first | exact HB.out | apply fa_ | apply ca_ | apply ga_) | exact HB.out)); (case side2 => exact HR0.out); (case side3 => exact HC0.out); rintro e w10 ⟨g300, rfl, hi, hb, hb2⟩; have n0_ := ba_.mk (hb); have n1_ := ba_.mk (hi); clear HB; have HB := n0_; have HI300 := n1_; clear n0_ n1_; (try clear hb); (try clear hb2); (try clear hk); (try clear hi)) | (go_at_call 31; (with_reducible refine (oa_.calls g300 t298 t299 0 6 t301 t302 w _ ?side1 ?side2 A3.out).mono ?_); (case side1 => repeat (first | (with_reducible first | exact HI300.out | apply ia_.alloc | apply ia_.drewN | apply ia_.drew | apply ia_.ic_) | exact HI300.out)); (case side2 => repeat (first | (with_reducible first | exact HB.out | apply fa_ | apply ca_ | apply ga_ | refine qa_ ?_ (ia_.ge HI300.out)) | exact HB.out)); rintro e w11 ⟨rfl, hi, hb, hk⟩; have n0_ := ba_.mk (hb); have n1_ := ba_.mk (hi); clear HB; clear HI300; have HB := n0_; have HI300 := n1_; clear n0_ n1_; (try clear hb); (try clear hb2); (try clear hk); (try clear hi)) | (go_at_call 31; (with_reducible refine (oa_.calls g300 t298 t302 0 3 t303 t304 w _ ?side1 ?side2 A4.out).mono ?_); (case side1 => repeat (first | (with_reducible first | exact HI300.out | apply ia_.alloc | apply ia_.drewN | apply ia_.drew | apply ia_.ic_) | exact HI300.out)); (case side2 => repeat (first | (with_reducible first | exact HB.out | apply fa_ | apply ca_ | apply ga_ | refine qa_ ?_ (ia_.ge HI300.out)) | exact HB.out)); rintro e w12 ⟨rfl, hi, hb, hk⟩; have n0_ := ba_.mk (hb); have n1_ := ba_.mk (hi); clear HB; clear HI300; have HB := n0_; have HI300 := n1_; clear n0_ n1_; (try clear hb); (try clear hb2); (try clear hk); (try clear hi)) | (go_at_call 30; (with_reducible refine (da_.calls k g300 t298 t304 t301 t303 t305 t308 t311 w _ ?side1 ?side2 A5.out).mono ?_); (case side1 => repeat (first | (with_reducible first | exact HI300.out | apply ia_.alloc | apply ia_.drewN | apply ia_.drew | apply ia_.ic_) | exact HI300.out)); (case side2 => repeat (first | (with_reducible first | exact HB.out | apply fa_ | apply ca_ | apply ga_ | refine qa_ ?_ (ia_.ge HI300.out)) | exact HB.out)); rintro e w13 ⟨v306, v309, rfl, ho0, ho1, hi, hb, hk⟩; have n0_ := ba_.mk (Kd.wc_ ho0 (eb_ (by repeat (first | (with_reducible first | exact HB.out | apply fa_ | apply ca_ | apply ga_ | refine qa_ ?_ (ia_.ge HI300.out)) | exact HB.out)))); have n1_ := ba_.mk (Kd.wc_ ho1 (eb_ (by repeat (first | (with_reducible first | exact HB.out | apply fa_ | apply ca_ | apply ga_ | refine qa_ ?_ (ia_.ge HI300.out)) | exact HB.out)))); have n2_ := ba_.mk (hb); have n3_ := ba_.mk (hi); clear HB; clear HI300; have HO307 := n0_; have HO310 := n1_; have HB := n2_; have HI300 := n3_; clear n0_ n1_ n2_ n3_; (try clear hb); (try clear hb2); (try clear hk); (try clear hi); (try clear ho0); (try clear ho1); obtain ⟨Ao14, co14, eo14⟩ := Kd.fc_ HO307.out; subst eo14) | (go_at_call 34; (with_reducible refine (je_.calls _ _ t305 t312 t313 t314 _ ?side1 ?side2 A6.out).mono ?_); (case side1 => repeat (first | exact (Kd.ta_ HO307.out).2.2 | (with_reducible refine Kd.yb_ ?_ _) | (with_reducible refine Kd.zb_ ?_ _) | (with_reducible refine Kd.jc_ ?_))); (case side2 => exact (Kd.ta_ HO307.out).2.1); rintro e w15 ⟨v315, rfl, ho0, hb⟩; have n0_ := ba_.mk (Kd.wb_ (by (with_reducible repeat (first | apply Kd.la_ | apply Kd.ka_ | apply Kd.ma_)); exact HO307.out) (Kd.rc_ ho0) hb); have n1_ := ba_.mk (Kd.wb_ (by (with_reducible repeat (first | apply Kd.la_ | apply Kd.ka_ | apply Kd.ma_)); exact HO310.out) (Kd.rc_ ho0) hb); have n2_ := ba_.mk (Kd.wc_ (Kd.qc_ (Kd.qc_ ho0 (Kd.R_lt (by (with_reducible repeat (first | apply Kd.la_ | apply Kd.ka_ | apply Kd.ma_)); exact HO307.out))) (Kd.R_lt (by (with_reducible repeat (first | apply Kd.la_ | apply Kd.ka_ | apply Kd.ma_)); exact HO310.out))) (eb_ (by repeat (first | (with_reducible first | exact HB.out | apply fa_ | apply ca_ | apply ga_ | refine qa_ ?_ (ia_.ge HI300.out)) | exact HB.out)))); have n3_ := ba_.mk (ia_.below (by repeat (first | (with_reducible first | exact HI300.out | apply ia_.alloc | apply ia_.drewN | apply ia_.drew | apply ia_.ic_) | exact HI300.out)) hb); have n4_ := ba_.mk (gb_ (by repeat (first | (with_reducible first | exact HB.out | apply fa_ | apply ca_ | apply ga_ | refine qa_ ?_ (ia_.ge HI300.out)) | exact HB.out)) hb); clear HO307; clear HO310; clear HI300; clear HB; have HO307 := n0_; have HO310 := n1_; have HO316 := n2_; have HI300 := n3_; have HB := n4_; clear n0_ n1_ n2_ n3_ n4_; (try clear hb); (try clear hb2); (try clear hk); (try clear hi); (try clear ho0); obtain ⟨Ao16, co16, eo16⟩ := Kd.fc_ HO316.out; subst eo16) | (go_at_call 27; (with_reducible refine (ge_.calls _ _ t312 t318 t319 _ ?side1 ?side2 A8.out).mono ?_); (case side1 => repeat (first | exact (Kd.ta_ HO316.out).2.2 | (with_reducible refine Kd.yb_ ?_ _) | (with_reducible refine Kd.zb_ ?_ _) | (with_reducible refine Kd.jc_ ?_))); (case side2 => exact (Kd.ta_ HO316.out).2.1); rintro e w17 ⟨v320, rfl, ho0, hb⟩; have n0_ := ba_.mk (Kd.wb_ (by (with_reducible repeat (first | apply Kd.la_ | apply Kd.ka_ | apply Kd.ma_)); exact HO307.out) (Kd.rc_ ho0) hb); have n1_ := ba_.mk (Kd.wb_ (by (with_reducible repeat (first | apply Kd.la_ | apply Kd.ka_ | apply Kd.ma_)); exact HO310.out) (Kd.rc_ ho0) hb); have n2_ := ba_.mk (Kd.wb_ (by (with_reducible repeat (first | apply Kd.la_ | apply Kd.ka_ | apply Kd.ma_)); exact HO316.out) (Kd.rc_ ho0) hb); have n3_ := ba_.mk (Kd.wc_ (Kd.qc_ (Kd.qc_ (Kd.qc_ ho0 (Kd.R_lt (by (with_reducible repeat (first | apply Kd.la_ | apply Kd.ka_ | apply Kd.ma_)); exact HO307.out))) (Kd.R_lt (by (with_reducible repeat (first | apply Kd.la_ | apply Kd.ka_ | apply Kd.ma_)); exact HO310.out))) (Kd.R_lt (by (with_reducible repeat (first | apply Kd.la_ | apply Kd.ka_ | apply Kd.ma_)); exact HO316.out))) (eb_ (by repeat (first | (with_reducible first | exact HB.out | apply fa_ | apply ca_ | apply ga_ | refine qa_ ?_ (ia_.ge HI300.out)) | exact HB.out)))); have n4_ := ba_.mk (ia_.below (by repeat (first | (with_reducible first | exact HI300.out | apply ia_.alloc | apply ia_.drewN | apply ia_.drew | apply ia_.ic_) | exact HI300.out)) hb); have n5_ := ba_.mk (gb_ (by repeat (first | (with_reducible first | exact HB.out | apply fa_ | apply ca_ | apply ga_ | refine qa_ ?_ (ia_.ge HI300.out)) | exact HB.out)) hb); clear HO307; clear HO310; clear HO316; clear HI300; clear HB; have HO307 := n0_; have HO310 := n1_; have HO316 := n2_; have HO321 := n3_; have HI300 := n4_; have HB := n5_; clear n0_ n1_ n2_ n3_ n4_ n5_; (try clear hb); (try clear hb2); (try clear hk); (try clear hi); (try clear ho0))); go_upto_region 7 with (first | (go_at_call 22; (with_reducible refine (sb_.calls _ _ l0 t298 t299 w _ ?side1 ?side2 ?side3 A2.out).mono ?_); (case side1 => repeat (first | (with_reducible first | exact HB.out | apply fa_ | apply ca_ | apply ga_) | exact HB.out)); (case side2 => exact HR0.out); (case side3 => exact HC0.out); rintro e w10 ⟨g300, rfl, hi, hb, hb2⟩; have n0_ := ba_.mk (hb); have n1_ := ba_.mk (hi); clear HB; have HB := n0_; have HI300 := n1_; clear n0_ n1_; (try clear hb); (try clear hb2); (try clear hk); (try clear hi)) | (go_at_call 31; (with_reducible refine (oa_.calls g300 t298 t299 0 6 t301 t302 w _ ?side1 ?side2 A3.out).mono ?_); (case side1 => repeat (first | (with_reducible first | exact HI300.out | apply ia_.alloc | apply ia_.drewN | apply ia_.drew | apply ia_.ic_) | exact HI300.out)); (case side2 => repeat (first | (with_reducible first | exact HB.out | apply fa_ | apply ca_ | apply ga_ | refine qa_ ?_ (ia_.ge HI300.out)) | exact HB.out)); rintro e w11 ⟨rfl, hi, hb, hk⟩; have n0_ := ba_.mk (hb); have n1_ := ba_.mk (hi); clear HB; clear HI300; have HB := n0_; have HI300 := n1_; clear n0_ n1_; (try clear hb); (try clear hb2); (try clear hk); (try clear hi)) | (go_at_call 31; (with_reducible refine (oa_.calls g300 t298 t302 0 3 t303 t304 w _ ?side1 ?side2 A4.out).mono ?_); (case side1 => repeat (first | (with_reducible first | exact HI300.out | apply ia_.alloc | apply ia_.drewN | apply ia_.drew | apply ia_.ic_) | exact HI300.out)); (case side2 => repeat (first | (with_reducible first | exact HB.out | apply fa_ | apply ca_ | apply ga_ | refine qa_ ?_ (ia_.ge HI300.out)) | exact HB.out)); rintro e w12 ⟨rfl, hi, hb, hk⟩; have n0_ := ba_.mk (hb); have n1_ := ba_.mk (hi); clear HB; clear HI300; have HB := n0_; have HI300 := n1_; clear n0_ n1_; (try clear hb); (try clear hb2); (try clear hk); (try clear hi)) | (go_at_call 30; (with_reducible refine (da_.calls k g300 t298 t304 t301 t303 t305 t308 t311 w _ ?side1 ?side2 A5.out).mono ?_); (case side1 => repeat (first | (with_reducible first | exact HI300.out | apply ia_.alloc | apply ia_.drewN | apply ia_.drew | apply ia_.ic_) | exact HI300.out)); (case side2 => repeat (first | (with_reducible first | exact HB.out | apply fa_ | apply ca_ | apply ga_ | refine qa_ ?_ (ia_.ge HI300.out)) | exact HB.out)); rintro e w13 ⟨v306, v309, rfl, ho0, ho1, hi, hb, hk⟩; have n0_ := ba_.mk (Kd.wc_ ho0 (eb_ (by repeat (first | (with_reducible first | exact HB.out | apply fa_ | apply ca_ | apply ga_ | refine qa_ ?_ (ia_.ge HI300.out)) | exact HB.out)))); have n1_ := ba_.mk (Kd.wc_ ho1 (eb_ (by repeat (first | (with_reducible first | exact HB.out | apply fa_ | apply ca_ | apply ga_ | refine qa_ ?_ (ia_.ge HI300.out)) | exact HB.out)))); have n2_ := ba_.mk (hb); have n3_ := ba_.mk (hi); clear HB; clear HI300; have HO307 := n0_; have HO310 := n1_; have HB := n2_; have HI300 := n3_; clear n0_ n1_ n2_ n3_; (try clear hb); (try clear hb2); (try clear hk); (try clear hi); (try clear ho0); (try clear ho1); obtain ⟨Ao14, co14, eo14⟩ := Kd.fc_ HO307.out; subst eo14) | (go_at_call 34; (with_reducible refine (je_.calls _ _ t305 t312 t313 t314 _ ?side1 ?side2 A6.out).mono ?_); (case side1 => repeat (first | exact (Kd.ta_ HO307.out).2.2 | (with_reducible refine Kd.yb_ ?_ _) | (with_reducible refine Kd.zb_ ?_ _) | (with_reducible refine Kd.jc_ ?_))); (case side2 => exact (Kd.ta_ HO307.out).2.1); rintro e w15 ⟨v315, rfl, ho0, hb⟩; have n0_ := ba_.mk (Kd.wb_ (by (with_reducible repeat (first | apply Kd.la_ | apply Kd.ka_ | apply Kd.ma_)); exact HO307.out) (Kd.rc_ ho0) hb); have n1_ := ba_.mk (Kd.wb_ (by (with_reducible repeat (first | apply Kd.la_ | apply Kd.ka_ | apply Kd.ma_)); exact HO310.out) (Kd.rc_ ho0) hb); have n2_ := ba_.mk (Kd.wc_ (Kd.qc_ (Kd.qc_ ho0 (Kd.R_lt (by (with_reducible repeat (first | apply Kd.la_ | apply Kd.ka_ | apply Kd.ma_)); exact HO307.out))) (Kd.R_lt (by (with_reducible repeat (first | apply Kd.la_ | apply Kd.ka_ | apply Kd.ma_)); exact HO310.out))) (eb_ (by repeat (first | (with_reducible first | exact HB.out | apply fa_ | apply ca_ | apply ga_ | refine qa_ ?_ (ia_.ge HI300.out)) | exact HB.out)))); have n3_ := ba_.mk (ia_.below (by repeat (first | (with_reducible first | exact HI300.out | apply ia_.alloc | apply ia_.drewN | apply ia_.drew | apply ia_.ic_) | exact HI300.out)) hb); have n4_ := ba_.mk (gb_ (by repeat (first | (with_reducible first | exact HB.out | apply fa_ | apply ca_ | apply ga_ | refine qa_ ?_ (ia_.ge HI300.out)) | exact HB.out)) hb); clear HO307; clear HO310; clear HI300; clear HB; have HO307 := n0_; have HO310 := n1_; have HO316 := n2_; have HI300 := n3_; have HB := n4_; clear n0_ n1_ n2_ n3_ n4_; (try clear hb); (try clear hb2); (try clear hk); (try clear hi); (try clear ho0); obtain ⟨Ao16, co16, eo16⟩ := Kd.fc_ HO316.out; subst eo16) | (go_at_call 27; (with_reducible refine (ge_.calls _ _ t312 t318 t319 _ ?side1 ?side2 A8.out).mono ?_); (case side1 => repeat (first | exact (Kd.ta_ HO316.out).2.2 | (with_reducible refine Kd.yb_ ?_ _) | (with_reducible refine Kd.zb_ ?_ _) | (with_reducible refine Kd.jc_ ?_))); (case side2 => exact (Kd.ta_ HO316.out).2.1); rintro e w17 ⟨v320, rfl, ho0, hb⟩; have n0_ := ba_.mk (Kd.wb_ (by (with_reducible repeat (first | apply Kd.la_ | apply Kd.ka_ | apply Kd.ma_)); exact HO307.out) (Kd.rc_ ho0) hb); have n1_ := ba_.mk (Kd.wb_ (by (with_reducible repeat (first | apply Kd.la_ | apply Kd.ka_ | apply Kd.ma_)); exact HO310.out) (Kd.rc_ ho0) hb); have n2_ := ba_.mk (Kd.wb_ (by (with_reducible repeat (first | apply Kd.la_ | apply Kd.ka_ | apply Kd.ma_)); exact HO316.out) (Kd.rc_ ho0) hb); have n3_ := ba_.mk (Kd.wc_ (Kd.qc_ (Kd.qc_ (Kd.qc_ ho0 (Kd.R_lt (by (with_reducible repeat (first | apply Kd.la_ | apply Kd.ka_ | apply Kd.ma_)); exact HO307.out))) (Kd.R_lt (by (with_reducible repeat (first | apply Kd.la_ | apply Kd.ka_ | apply Kd.ma_)); exact HO310.out))) (Kd.R_lt (by (with_reducible repeat (first | apply Kd.la_ | apply Kd.ka_ | apply Kd.ma_)); exact HO316.out))) (eb_ (by repeat (first | (with_reducible first | exact HB.out | apply fa_ | apply ca_ | apply ga_ | refine qa_ ?_ (ia_.ge HI300.out)) | exact HB.out)))); have n4_ := ba_.mk (ia_.below (by repeat (first | (with_reducible first | exact HI300.out | apply ia_.alloc | apply ia_.drewN | apply ia_.drew | apply ia_.ic_) | exact HI300.out)) hb); have n5_ := ba_.mk (gb_ (by repeat (first | (with_reducible first | exact HB.out | apply fa_ | apply ca_ | apply ga_ | refine qa_ ?_ (ia_.ge HI300.out)) | exact HB.out)) hb); clear HO307; clear HO310; clear HO316; clear HI300; clear HB; have HO307 := n0_; have HO310 := n1_; have HO316 := n2_; have HO321 := n3_; have HI300 := n4_; have HB := n5_; clear n0_ n1_ n2_ n3_ n4_ n5_; (try clear hb); (try clear hb2); (try clear hk); (try clear hi); (try clear ho0))))
  (try simp only [Act.put, List.setIfInBounds_toArray, List.set_cons_zero, List.set_cons_succ])
  go_cut [60] (fun v60 wc => ∃ (kq : Nat) (x60_8 : Bool), v60 = .bool x60_8 ∧ ba_ (za_.j0 kq t305 t313 t318 x60_8 = some r) ∧ ba_ (kq ≤ k) ∧ ba_ (Kd.R (Kd.int .i64) 3 wc w.heap.size (fun k_ => some k_ ≠ (v320 : Value).ownBlock) (.slice Ao14 t305.length co14) t305) ∧ ba_ (Kd.R (Kd.int .i64) 3 wc w.heap.size (fun k_ => some k_ ≠ ((.slice Ao14 t305.length co14) : Value).ownBlock) v320 t318) ∧ ba_ (Below w.heap.size w wc))
  case first =>
   have H := HC9.out
   clear HC9
   by_cases c18 : t319 = 0
   ·rw [if_pos c18] at H
    have c18b0 : (t319 == 0) = true := beq_iff_eq.mpr c18
    have c18b1 : (t319 != 0) = false := bne_eq_false_iff_eq.mpr c18
    clear c18
    (first | rw [c18b0] | (simp only [gc_, lc_]; rw [c18b0]) | skip)
    have H' := ba_.mk H
    clear H
    obtain ⟨Ao19, co19, eo19⟩ := Kd.fc_ HO321.out
    subst eo19
    go_wp2
    repeat (go_quiet (fail); try go_wp2)
    go_meet
    case rel => exact ⟨_, (((t318.length : Int) != (t305.length : Int))), (by first | rfl | (simp; done) | (simp [*]; done)), H', ⟨by first | omega | exact Nat.le_refl _⟩, ⟨by (with_reducible repeat (first | apply Kd.la_ | apply Kd.ka_ | apply Kd.ma_)); exact Kd.bc_ HO307.out (fun _ hk => hk.2)⟩, ⟨by (with_reducible repeat (first | apply Kd.la_ | apply Kd.ka_ | apply Kd.ma_)); exact Kd.bc_ HO321.out (fun _ hk => hk.1.1.2)⟩, ⟨by repeat (first | (with_reducible first | exact HB.out | apply fa_ | apply ca_ | apply ga_ | refine qa_ ?_ (ia_.ge HI300.out)) | exact HB.out)⟩⟩
   ·rw [if_neg c18] at H
    have c18b0 : (t319 == 0) = false := beq_eq_false_iff_ne.mpr c18
    have c18b1 : (t319 != 0) = true := bne_iff_ne.mpr c18
    (first | rw [c18b0] | (simp only [gc_, lc_]; rw [c18b0]) | skip)
    have H' := ba_.mk H
    clear H
    go_wp2
    repeat (go_quiet (fail); try go_wp2)
    go_meet
    case rel => exact ⟨_, (true), (by first | rfl | (simp; done) | (simp [*]; done)), H', ⟨by first | omega | exact Nat.le_refl _⟩, ⟨by (with_reducible repeat (first | apply Kd.la_ | apply Kd.ka_ | apply Kd.ma_)); exact Kd.bc_ HO307.out (fun _ hk => hk.2)⟩, ⟨by (with_reducible repeat (first | apply Kd.la_ | apply Kd.ka_ | apply Kd.ma_)); exact Kd.bc_ HO321.out (fun _ hk => hk.1.1.2)⟩, ⟨by repeat (first | (with_reducible first | exact HB.out | apply fa_ | apply ca_ | apply ga_ | refine qa_ ?_ (ia_.ge HI300.out)) | exact HB.out)⟩⟩
  case rest =>
   clear HC9
   try clear c1
   try clear p2
   try clear c7
   try clear c7b0
   try clear c7b1
   try clear c10
   try clear c18
   try clear c18b0
   try clear c18b1
   obtain ⟨kq, x60_8, rfl, HA, HJ8, HO_4, HO_9, HB⟩ := hcut
   cases kq with
   | zero => exact absurd HA.out (by simp [za_.j0])
   | succ kj8 =>
    have H := HA.out
    clear HA
    simp only [za_.j0] at H
    by_cases c20 : x60_8 = true
    ·subst c20
     have H1 : (some false) = some r := by rw [if_pos rfl] at H; exact H
     clear H
     have H := H1
     clear H1
     exact absurd ((Option.some.inj H).trans HRT.out) (by decide)
    ·replace c20 := Bool.eq_false_iff.mpr c20
     subst c20
     have H1 : (za_.l0 kj8 t305 t313 t318 0 0 0) = some r := by rw [if_neg (show ¬ (false = true) by decide)] at H; exact H
     clear H
     have H := H1
     clear H1
     have H' := ba_.mk H
     clear H
     go_wp2
     repeat (go_quiet (fail); try go_wp2)
     go_loopg [11, 12, 13] kj8 (fun kq v11 v12 v13 w' => ∃ (x11_2 : Int) (x12_2 : Int) (x13_2 : Int), v11 = .int .i64 x11_2 ∧ v12 = .int .i64 x12_2 ∧ v13 = .int .i64 x13_2 ∧ ba_ (za_.l0 kq t305 t313 t318 x11_2 x12_2 x13_2 = some r) ∧ ba_ (kq ≤ kj8) ∧ ba_ (Kd.R (Kd.int .i64) 3 w' w.heap.size (fun k_ => some k_ ≠ (v320 : Value).ownBlock) (.slice Ao14 t305.length co14) t305) ∧ ba_ (Kd.R (Kd.int .i64) 3 w' w.heap.size (fun k_ => some k_ ≠ ((.slice Ao14 t305.length co14) : Value).ownBlock) v320 t318) ∧ ba_ (Below w.heap.size w w'))
     case atStart => exact ⟨(0), (0), (0), (by first | rfl | (simp; done) | (simp [*]; done)), (by first | rfl | (simp; done) | (simp [*]; done)), (by first | rfl | (simp; done) | (simp [*]; done)), H', ⟨Nat.le_refl _⟩, ⟨by (with_reducible repeat (first | apply Kd.la_ | apply Kd.ka_ | apply Kd.ma_)); exact HO_4.out⟩, ⟨by (with_reducible repeat (first | apply Kd.la_ | apply Kd.ka_ | apply Kd.ma_)); exact HO_9.out⟩, ⟨by repeat (first | (with_reducible first | exact HB.out | apply fa_ | apply ca_ | apply ga_) | exact HB.out)⟩⟩
     case round =>
      clear H'
      try clear c1
      try clear c2
      try clear p2
      try clear c7
      try clear c7b0
      try clear c7b1
      try clear c10
      try clear c18
      try clear c18b0
      try clear c18b1
      try clear c20
      try clear p2
      obtain ⟨x11_2, x12_2, x13_2, rfl, rfl, rfl, HA, HK2, HO_4, HO_9, HB⟩ := hrel
      cases gk with
      | zero => exact absurd HA.out (by simp [za_.l0])
      | succ k2 =>
       have H := HA.out
       clear HA
       simp only [za_.l0] at H
       by_cases c21 : x13_2 < (t305.length : Int)
       ·rw [if_pos c21] at H
        have c21b0 : decide (x13_2 < (t305.length : Int)) = true := decide_eq_true c21
        clear c21
        by_cases c22 : 0 ≤ x13_2
        ·rw [if_pos c22] at H
         have c22b0 : decide (0 ≤ x13_2) = true := decide_eq_true c22
         clear c22
         by_cases c23 : (rd t305 x13_2) = (-1)
         ·rw [if_pos c23] at H
          have c23b0 : ((rd t305 x13_2) == (-1)) = true := beq_iff_eq.mpr c23
          try have c23b9 := eq_true (beq_iff_eq.mp c23b0)
          have c23b1 : ((rd t305 x13_2) != (-1)) = false := bne_eq_false_iff_eq.mpr c23
          clear c23
          have H' := ba_.mk H
          clear H
          have p323 : 0 ≤ (x13_2 : Int) := of_decide_eq_true (by first | (with_reducible assumption) | assumption)
          have q323 : x13_2 < (t305.length : Int) := of_decide_eq_true (by first | (with_reducible assumption) | assumption)
          obtain ⟨ad323, e323, hx323_0⟩ := Kd.nd_ (Kd.ta_ HO_4.out).2.2 x13_2 p323 q323
          cases e323
          replace p323 := eq_true p323
          replace q323 := eq_true q323
          go_wp2
          repeat (go_quiet (fail); try go_wp2)
          go_roundg k2
          case measure => have := HJ8.out; have := HK2.out; omega
          case rel => exact ⟨(x11_2), (wrap64 (x12_2 + 1)), (wrap64 (x13_2 + 1)), (by first | rfl | (simp; done) | (simp [*]; done)), (by first | rfl | (simp; done) | (simp [*]; done)), (by first | rfl | (simp; done) | (simp [*]; done)), H', ⟨by have := HJ8.out; have := HK2.out; omega⟩, ⟨by (with_reducible repeat (first | apply Kd.la_ | apply Kd.ka_ | apply Kd.ma_)); exact HO_4.out⟩, ⟨by (with_reducible repeat (first | apply Kd.la_ | apply Kd.ka_ | apply Kd.ma_)); exact HO_9.out⟩, ⟨by repeat (first | (with_reducible first | exact HB.out | apply fa_ | apply ca_ | apply ga_) | exact HB.out)⟩⟩
         ·rw [if_neg c23] at H
          have c23b0 : ((rd t305 x13_2) == (-1)) = false := beq_eq_false_iff_ne.mpr c23
          try have c23b9 := eq_false (beq_eq_false_iff_ne.mp c23b0)
          have c23b1 : ((rd t305 x13_2) != (-1)) = true := bne_iff_ne.mpr c23
          by_cases c24 : x13_2 < (t318.length : Int)
          ·rw [if_pos c24] at H
           have c24b0 : decide (x13_2 < (t318.length : Int)) = true := decide_eq_true c24
           clear c24
           by_cases c25 : (rd t305 x13_2) = (rd t318 x13_2)
           ·rw [if_pos c25] at H
            have c25b0 : ((rd t305 x13_2) == (rd t318 x13_2)) = true := beq_iff_eq.mpr c25
            try have c25b9 := eq_true (beq_iff_eq.mp c25b0)
            have c25b1 : ((rd t305 x13_2) != (rd t318 x13_2)) = false := bne_eq_false_iff_eq.mpr c25
            clear c25
            have H' := ba_.mk H
            clear H
            have p323 : 0 ≤ (x13_2 : Int) := of_decide_eq_true (by first | (with_reducible assumption) | assumption)
            have q323 : x13_2 < (t305.length : Int) := of_decide_eq_true (by first | (with_reducible assumption) | assumption)
            obtain ⟨ad323, e323, hx323_0⟩ := Kd.nd_ (Kd.ta_ HO_4.out).2.2 x13_2 p323 q323
            cases e323
            replace p323 := eq_true p323
            replace q323 := eq_true q323
            have p324 : 0 ≤ (x13_2 : Int) := of_decide_eq_true (by first | (with_reducible assumption) | assumption)
            have q324 : x13_2 < (t305.length : Int) := of_decide_eq_true (by first | (with_reducible assumption) | assumption)
            obtain ⟨ad324, e324, hx324_0⟩ := Kd.nd_ (Kd.ta_ HO_4.out).2.2 x13_2 p324 q324
            obtain rfl : ad323 = ad324 := (by injection e324)
            replace p324 := eq_true p324
            replace q324 := eq_true q324
            obtain ⟨Ao26, co26, eo26⟩ := Kd.fc_ HO_9.out
            subst eo26
            have p325 : 0 ≤ (x13_2 : Int) := of_decide_eq_true (by first | (with_reducible assumption) | assumption)
            have q325 : x13_2 < (t318.length : Int) := of_decide_eq_true (by first | (with_reducible assumption) | assumption)
            obtain ⟨ad325, e325, hx325_0⟩ := Kd.nd_ (Kd.ta_ HO_9.out).2.2 x13_2 p325 q325
            cases e325
            replace p325 := eq_true p325
            replace q325 := eq_true q325
            go_wp2
            repeat (go_quiet (fail); try go_wp2)
            go_roundg k2
            case measure => have := HJ8.out; have := HK2.out; omega
            case rel => exact ⟨(x11_2), (x12_2), (wrap64 (x13_2 + 1)), (by first | rfl | (simp; done) | (simp [*]; done)), (by first | rfl | (simp; done) | (simp [*]; done)), (by first | rfl | (simp; done) | (simp [*]; done)), H', ⟨by have := HJ8.out; have := HK2.out; omega⟩, ⟨by (with_reducible repeat (first | apply Kd.la_ | apply Kd.ka_ | apply Kd.ma_)); exact HO_4.out⟩, ⟨by (with_reducible repeat (first | apply Kd.la_ | apply Kd.ka_ | apply Kd.ma_)); exact HO_9.out⟩, ⟨by repeat (first | (with_reducible first | exact HB.out | apply fa_ | apply ca_ | apply ga_) | exact HB.out)⟩⟩
           ·rw [if_neg c25] at H
            have c25b0 : ((rd t305 x13_2) == (rd t318 x13_2)) = false := beq_eq_false_iff_ne.mpr c25
            try have c25b9 := eq_false (beq_eq_false_iff_ne.mp c25b0)
            have c25b1 : ((rd t305 x13_2) != (rd t318 x13_2)) = true := bne_iff_ne.mpr c25
            have H' := ba_.mk H
            clear H
            have p323 : 0 ≤ (x13_2 : Int) := of_decide_eq_true (by first | (with_reducible assumption) | assumption)
            have q323 : x13_2 < (t305.length : Int) := of_decide_eq_true (by first | (with_reducible assumption) | assumption)
            obtain ⟨ad323, e323, hx323_0⟩ := Kd.nd_ (Kd.ta_ HO_4.out).2.2 x13_2 p323 q323
            cases e323
            replace p323 := eq_true p323
            replace q323 := eq_true q323
            have p324 : 0 ≤ (x13_2 : Int) := of_decide_eq_true (by first | (with_reducible assumption) | assumption)
            have q324 : x13_2 < (t305.length : Int) := of_decide_eq_true (by first | (with_reducible assumption) | assumption)
            obtain ⟨ad324, e324, hx324_0⟩ := Kd.nd_ (Kd.ta_ HO_4.out).2.2 x13_2 p324 q324
            obtain rfl : ad323 = ad324 := (by injection e324)
            replace p324 := eq_true p324
            replace q324 := eq_true q324
            obtain ⟨Ao27, co27, eo27⟩ := Kd.fc_ HO_9.out
            subst eo27
            have p325 : 0 ≤ (x13_2 : Int) := of_decide_eq_true (by first | (with_reducible assumption) | assumption)
            have q325 : x13_2 < (t318.length : Int) := of_decide_eq_true (by first | (with_reducible assumption) | assumption)
            obtain ⟨ad325, e325, hx325_0⟩ := Kd.nd_ (Kd.ta_ HO_9.out).2.2 x13_2 p325 q325
            cases e325
            replace p325 := eq_true p325
            replace q325 := eq_true q325
            go_wp2
            repeat (go_quiet (fail); try go_wp2)
            go_roundg k2
            case measure => have := HJ8.out; have := HK2.out; omega
            case rel => exact ⟨(wrap64 (x11_2 + 1)), (x12_2), (wrap64 (x13_2 + 1)), (by first | rfl | (simp; done) | (simp [*]; done)), (by first | rfl | (simp; done) | (simp [*]; done)), (by first | rfl | (simp; done) | (simp [*]; done)), H', ⟨by have := HJ8.out; have := HK2.out; omega⟩, ⟨by (with_reducible repeat (first | apply Kd.la_ | apply Kd.ka_ | apply Kd.ma_)); exact HO_4.out⟩, ⟨by (with_reducible repeat (first | apply Kd.la_ | apply Kd.ka_ | apply Kd.ma_)); exact HO_9.out⟩, ⟨by repeat (first | (with_reducible first | exact HB.out | apply fa_ | apply ca_ | apply ga_) | exact HB.out)⟩⟩
          ·rw [if_neg c24] at H
           exact absurd H (by simp)
        ·rw [if_neg c22] at H
         exact absurd H (by simp)
       ·rw [if_neg c21] at H
        have c21b0 : decide (x13_2 < (t305.length : Int)) = false := decide_eq_false c21
        clear c21
        by_cases c28 : x11_2 = t313
        ·rw [if_pos c28] at H
         have c28b0 : (x11_2 == t313) = true := beq_iff_eq.mpr c28
         have c28b1 : (x11_2 != t313) = false := bne_eq_false_iff_eq.mpr c28
         clear c28
         by_cases c29 : (wrap64 ((wrap64 (2 * x11_2)) + x12_2)) ≤ 6
         ·rw [if_pos c29] at H
          have c29b0 : decide ((wrap64 ((wrap64 (2 * x11_2)) + x12_2)) ≤ 6) = true := decide_eq_true c29
          clear c29
          replace H := Option.bind_eq_some_iff.mp H
          obtain ⟨t322, A300, H⟩ := H
          replace H : (some t322) = some r := H
          have A30 := ba_.mk A300
          clear A300
          obtain rfl := Option.some.inj H
          go_wp2_with (first | (go_at_call 19; (with_reducible refine (ha_.calls k2  t322 _ A30.out HRT.out).mono ?_); rintro e w31 ⟨rfl, hb⟩; have n0_ := ba_.mk (Kd.cd_ (by (with_reducible repeat (first | apply Kd.la_ | apply Kd.ka_ | apply Kd.ma_)); exact HO_4.out) hb); have n1_ := ba_.mk (Kd.cd_ (by (with_reducible repeat (first | apply Kd.la_ | apply Kd.ka_ | apply Kd.ma_)); exact HO_9.out) hb); have n2_ := ba_.mk (gb_ (by repeat (first | (with_reducible first | exact HB.out | apply fa_ | apply ca_ | apply ga_) | exact HB.out)) hb); clear HO_4; clear HO_9; clear HB; have HO_4 := n0_; have HO_9 := n1_; have HB := n2_; clear n0_ n1_ n2_; (try clear hb); (try clear hb2); (try clear hk); (try clear hi)))
          repeat (go_quiet (first | (go_at_call 19; (with_reducible refine (ha_.calls k2  t322 _ A30.out HRT.out).mono ?_); rintro e w31 ⟨rfl, hb⟩; have n0_ := ba_.mk (Kd.cd_ (by (with_reducible repeat (first | apply Kd.la_ | apply Kd.ka_ | apply Kd.ma_)); exact HO_4.out) hb); have n1_ := ba_.mk (Kd.cd_ (by (with_reducible repeat (first | apply Kd.la_ | apply Kd.ka_ | apply Kd.ma_)); exact HO_9.out) hb); have n2_ := ba_.mk (gb_ (by repeat (first | (with_reducible first | exact HB.out | apply fa_ | apply ca_ | apply ga_) | exact HB.out)) hb); clear HO_4; clear HO_9; clear HB; have HO_4 := n0_; have HO_9 := n1_; have HB := n2_; clear n0_ n1_ n2_; (try clear hb); (try clear hb2); (try clear hk); (try clear hi))); try go_wp2_with (first | (go_at_call 19; (with_reducible refine (ha_.calls k2  t322 _ A30.out HRT.out).mono ?_); rintro e w31 ⟨rfl, hb⟩; have n0_ := ba_.mk (Kd.cd_ (by (with_reducible repeat (first | apply Kd.la_ | apply Kd.ka_ | apply Kd.ma_)); exact HO_4.out) hb); have n1_ := ba_.mk (Kd.cd_ (by (with_reducible repeat (first | apply Kd.la_ | apply Kd.ka_ | apply Kd.ma_)); exact HO_9.out) hb); have n2_ := ba_.mk (gb_ (by repeat (first | (with_reducible first | exact HB.out | apply fa_ | apply ca_ | apply ga_) | exact HB.out)) hb); clear HO_4; clear HO_9; clear HB; have HO_4 := n0_; have HO_9 := n1_; have HB := n2_; clear n0_ n1_ n2_; (try clear hb); (try clear hb2); (try clear hk); (try clear hi))))
          go_ret
          exact ⟨by first | rfl | (simp [bb_, cb_] <;> rfl) | (simp [*, bb_, cb_] <;> rfl), by repeat (first | (with_reducible first | exact HB.out | apply fa_ | apply ca_ | apply ga_) | exact HB.out)⟩
         ·rw [if_neg c29] at H
          have c29b0 : decide ((wrap64 ((wrap64 (2 * x11_2)) + x12_2)) ≤ 6) = false := decide_eq_false c29
          clear c29
          exact absurd ((Option.some.inj H).trans HRT.out) (by decide)
        ·rw [if_neg c28] at H
         have c28b0 : (x11_2 == t313) = false := beq_eq_false_iff_ne.mpr c28
         have c28b1 : (x11_2 != t313) = true := bne_iff_ne.mpr c28
         exact absurd ((Option.some.inj H).trans HRT.out) (by decide)
 ·rw [if_neg c7] at H
  have c7b0 : (t314 == 0) = false := beq_eq_false_iff_ne.mpr c7
  have c7b1 : (t314 != 0) = true := bne_iff_ne.mpr c7
  by_cases c32 : t314 = 25
  ·rw [if_pos c32] at H
   have c32b0 : (t314 == 25) = true := beq_iff_eq.mpr c32
   have c32b1 : (t314 != 25) = false := bne_eq_false_iff_eq.mpr c32
   clear c32
   by_cases c33 : (t312.length : Int) = 0
   ·rw [if_pos c33] at H
    have c33b0 : ((t312.length : Int) == 0) = true := beq_iff_eq.mpr c33
    try have c33b9 := eq_true (beq_iff_eq.mp c33b0)
    have c33b1 : ((t312.length : Int) != 0) = false := bne_eq_false_iff_eq.mpr c33
    clear c33
    by_cases c34 : t313 = 0
    ·rw [if_pos c34] at H
     have c34b0 : (t313 == 0) = true := beq_iff_eq.mpr c34
     have c34b1 : (t313 != 0) = false := bne_eq_false_iff_eq.mpr c34
     clear c34
     replace H := Option.bind_eq_some_iff.mp H
     obtain ⟨t317, A350, H⟩ := H
     replace H : (some t317) = some r := H
     have A35 := ba_.mk A350
     clear A350
     obtain rfl := Option.some.inj H
     go_enter Try.func10, Try.ntmps10
     go_wp2_with (first | (go_at_call 22; (with_reducible refine (sb_.calls _ _ l0 t298 t299 w _ ?side1 ?side2 ?side3 A2.out).mono ?_); (case side1 => repeat (first | (with_reducible first | exact HB.out | apply fa_ | apply ca_ | apply ga_) | exact HB.out)); (case side2 => exact HR0.out); (case side3 => exact HC0.out); rintro e w36 ⟨g300, rfl, hi, hb, hb2⟩; have n0_ := ba_.mk (hb); have n1_ := ba_.mk (hi); clear HB; have HB := n0_; have HI300 := n1_; clear n0_ n1_; (try clear hb); (try clear hb2); (try clear hk); (try clear hi)) | (go_at_call 31; (with_reducible refine (oa_.calls g300 t298 t299 0 6 t301 t302 w _ ?side1 ?side2 A3.out).mono ?_); (case side1 => repeat (first | (with_reducible first | exact HI300.out | apply ia_.alloc | apply ia_.drewN | apply ia_.drew | apply ia_.ic_) | exact HI300.out)); (case side2 => repeat (first | (with_reducible first | exact HB.out | apply fa_ | apply ca_ | apply ga_ | refine qa_ ?_ (ia_.ge HI300.out)) | exact HB.out)); rintro e w37 ⟨rfl, hi, hb, hk⟩; have n0_ := ba_.mk (hb); have n1_ := ba_.mk (hi); clear HB; clear HI300; have HB := n0_; have HI300 := n1_; clear n0_ n1_; (try clear hb); (try clear hb2); (try clear hk); (try clear hi)) | (go_at_call 31; (with_reducible refine (oa_.calls g300 t298 t302 0 3 t303 t304 w _ ?side1 ?side2 A4.out).mono ?_); (case side1 => repeat (first | (with_reducible first | exact HI300.out | apply ia_.alloc | apply ia_.drewN | apply ia_.drew | apply ia_.ic_) | exact HI300.out)); (case side2 => repeat (first | (with_reducible first | exact HB.out | apply fa_ | apply ca_ | apply ga_ | refine qa_ ?_ (ia_.ge HI300.out)) | exact HB.out)); rintro e w38 ⟨rfl, hi, hb, hk⟩; have n0_ := ba_.mk (hb); have n1_ := ba_.mk (hi); clear HB; clear HI300; have HB := n0_; have HI300 := n1_; clear n0_ n1_; (try clear hb); (try clear hb2); (try clear hk); (try clear hi)) | (go_at_call 30; (with_reducible refine (da_.calls k g300 t298 t304 t301 t303 t305 t308 t311 w _ ?side1 ?side2 A5.out).mono ?_); (case side1 => repeat (first | (with_reducible first | exact HI300.out | apply ia_.alloc | apply ia_.drewN | apply ia_.drew | apply ia_.ic_) | exact HI300.out)); (case side2 => repeat (first | (with_reducible first | exact HB.out | apply fa_ | apply ca_ | apply ga_ | refine qa_ ?_ (ia_.ge HI300.out)) | exact HB.out)); rintro e w39 ⟨v306, v309, rfl, ho0, ho1, hi, hb, hk⟩; have n0_ := ba_.mk (Kd.wc_ ho0 (eb_ (by repeat (first | (with_reducible first | exact HB.out | apply fa_ | apply ca_ | apply ga_ | refine qa_ ?_ (ia_.ge HI300.out)) | exact HB.out)))); have n1_ := ba_.mk (Kd.wc_ ho1 (eb_ (by repeat (first | (with_reducible first | exact HB.out | apply fa_ | apply ca_ | apply ga_ | refine qa_ ?_ (ia_.ge HI300.out)) | exact HB.out)))); have n2_ := ba_.mk (hb); have n3_ := ba_.mk (hi); clear HB; clear HI300; have HO307 := n0_; have HO310 := n1_; have HB := n2_; have HI300 := n3_; clear n0_ n1_ n2_ n3_; (try clear hb); (try clear hb2); (try clear hk); (try clear hi); (try clear ho0); (try clear ho1); obtain ⟨Ao40, co40, eo40⟩ := Kd.fc_ HO307.out; subst eo40) | (go_at_call 34; (with_reducible refine (je_.calls _ _ t305 t312 t313 t314 _ ?side1 ?side2 A6.out).mono ?_); (case side1 => repeat (first | exact (Kd.ta_ HO307.out).2.2 | (with_reducible refine Kd.yb_ ?_ _) | (with_reducible refine Kd.zb_ ?_ _) | (with_reducible refine Kd.jc_ ?_))); (case side2 => exact (Kd.ta_ HO307.out).2.1); rintro e w41 ⟨v315, rfl, ho0, hb⟩; have n0_ := ba_.mk (Kd.wb_ (by (with_reducible repeat (first | apply Kd.la_ | apply Kd.ka_ | apply Kd.ma_)); exact HO307.out) (Kd.rc_ ho0) hb); have n1_ := ba_.mk (Kd.wb_ (by (with_reducible repeat (first | apply Kd.la_ | apply Kd.ka_ | apply Kd.ma_)); exact HO310.out) (Kd.rc_ ho0) hb); have n2_ := ba_.mk (Kd.wc_ (Kd.qc_ (Kd.qc_ ho0 (Kd.R_lt (by (with_reducible repeat (first | apply Kd.la_ | apply Kd.ka_ | apply Kd.ma_)); exact HO307.out))) (Kd.R_lt (by (with_reducible repeat (first | apply Kd.la_ | apply Kd.ka_ | apply Kd.ma_)); exact HO310.out))) (eb_ (by repeat (first | (with_reducible first | exact HB.out | apply fa_ | apply ca_ | apply ga_ | refine qa_ ?_ (ia_.ge HI300.out)) | exact HB.out)))); have n3_ := ba_.mk (ia_.below (by repeat (first | (with_reducible first | exact HI300.out | apply ia_.alloc | apply ia_.drewN | apply ia_.drew | apply ia_.ic_) | exact HI300.out)) hb); have n4_ := ba_.mk (gb_ (by repeat (first | (with_reducible first | exact HB.out | apply fa_ | apply ca_ | apply ga_ | refine qa_ ?_ (ia_.ge HI300.out)) | exact HB.out)) hb); clear HO307; clear HO310; clear HI300; clear HB; have HO307 := n0_; have HO310 := n1_; have HO316 := n2_; have HI300 := n3_; have HB := n4_; clear n0_ n1_ n2_ n3_ n4_; (try clear hb); (try clear hb2); (try clear hk); (try clear hi); (try clear ho0); obtain ⟨Ao42, co42, eo42⟩ := Kd.fc_ HO316.out; subst eo42) | (go_at_call 19; (with_reducible refine (ha_.calls k  t317 _ A35.out HRT.out).mono ?_); rintro e w43 ⟨rfl, hb⟩; have n0_ := ba_.mk (Kd.cd_ (by (with_reducible repeat (first | apply Kd.la_ | apply Kd.ka_ | apply Kd.ma_)); exact HO307.out) hb); have n1_ := ba_.mk (Kd.cd_ (by (with_reducible repeat (first | apply Kd.la_ | apply Kd.ka_ | apply Kd.ma_)); exact HO310.out) hb); have n2_ := ba_.mk (Kd.cd_ (by (with_reducible repeat (first | apply Kd.la_ | apply Kd.ka_ | apply Kd.ma_)); exact HO316.out) hb); have n3_ := ba_.mk (ia_.below (by repeat (first | (with_reducible first | exact HI300.out | apply ia_.alloc | apply ia_.drewN | apply ia_.drew | apply ia_.ic_) | exact HI300.out)) hb); have n4_ := ba_.mk (gb_ (by repeat (first | (with_reducible first | exact HB.out | apply fa_ | apply ca_ | apply ga_ | refine qa_ ?_ (ia_.ge HI300.out)) | exact HB.out)) hb); clear HO307; clear HO310; clear HO316; clear HI300; clear HB; have HO307 := n0_; have HO310 := n1_; have HO316 := n2_; have HI300 := n3_; have HB := n4_; clear n0_ n1_ n2_ n3_ n4_; (try clear hb); (try clear hb2); (try clear hk); (try clear hi)))
     repeat (go_quiet (first | (go_at_call 22; (with_reducible refine (sb_.calls _ _ l0 t298 t299 w _ ?side1 ?side2 ?side3 A2.out).mono ?_); (case side1 => repeat (first | (with_reducible first | exact HB.out | apply fa_ | apply ca_ | apply ga_) | exact HB.out)); (case side2 => exact HR0.out); (case side3 => exact HC0.out); rintro e w36 ⟨g300, rfl, hi, hb, hb2⟩; have n0_ := ba_.mk (hb); have n1_ := ba_.mk (hi); clear HB; have HB := n0_; have HI300 := n1_; clear n0_ n1_; (try clear hb); (try clear hb2); (try clear hk); (try clear hi)) | (go_at_call 31; (with_reducible refine (oa_.calls g300 t298 t299 0 6 t301 t302 w _ ?side1 ?side2 A3.out).mono ?_); (case side1 => repeat (first | (with_reducible first | exact HI300.out | apply ia_.alloc | apply ia_.drewN | apply ia_.drew | apply ia_.ic_) | exact HI300.out)); (case side2 => repeat (first | (with_reducible first | exact HB.out | apply fa_ | apply ca_ | apply ga_ | refine qa_ ?_ (ia_.ge HI300.out)) | exact HB.out)); rintro e w37 ⟨rfl, hi, hb, hk⟩; have n0_ := ba_.mk (hb); have n1_ := ba_.mk (hi); clear HB; clear HI300; have HB := n0_; have HI300 := n1_; clear n0_ n1_; (try clear hb); (try clear hb2); (try clear hk); (try clear hi)) | (go_at_call 31; (with_reducible refine (oa_.calls g300 t298 t302 0 3 t303 t304 w _ ?side1 ?side2 A4.out).mono ?_); (case side1 => repeat (first | (with_reducible first | exact HI300.out | apply ia_.alloc | apply ia_.drewN | apply ia_.drew | apply ia_.ic_) | exact HI300.out)); (case side2 => repeat (first | (with_reducible first | exact HB.out | apply fa_ | apply ca_ | apply ga_ | refine qa_ ?_ (ia_.ge HI300.out)) | exact HB.out)); rintro e w38 ⟨rfl, hi, hb, hk⟩; have n0_ := ba_.mk (hb); have n1_ := ba_.mk (hi); clear HB; clear HI300; have HB := n0_; have HI300 := n1_; clear n0_ n1_; (try clear hb); (try clear hb2); (try clear hk); (try clear hi)) | (go_at_call 30; (with_reducible refine (da_.calls k g300 t298 t304 t301 t303 t305 t308 t311 w _ ?side1 ?side2 A5.out).mono ?_); (case side1 => repeat (first | (with_reducible first | exact HI300.out | apply ia_.alloc | apply ia_.drewN | apply ia_.drew | apply ia_.ic_) | exact HI300.out)); (case side2 => repeat (first | (with_reducible first | exact HB.out | apply fa_ | apply ca_ | apply ga_ | refine qa_ ?_ (ia_.ge HI300.out)) | exact HB.out)); rintro e w39 ⟨v306, v309, rfl, ho0, ho1, hi, hb, hk⟩; have n0_ := ba_.mk (Kd.wc_ ho0 (eb_ (by repeat (first | (with_reducible first | exact HB.out | apply fa_ | apply ca_ | apply ga_ | refine qa_ ?_ (ia_.ge HI300.out)) | exact HB.out)))); have n1_ := ba_.mk (Kd.wc_ ho1 (eb_ (by repeat (first | (with_reducible first | exact HB.out | apply fa_ | apply ca_ | apply ga_ | refine qa_ ?_ (ia_.ge HI300.out)) | exact HB.out)))); have n2_ := ba_.mk (hb); have n3_ := ba_.mk (hi); clear HB; clear HI300; have HO307 := n0_; have HO310 := n1_; have HB := n2_; have HI300 := n3_; clear n0_ n1_ n2_ n3_; (try clear hb); (try clear hb2); (try clear hk); (try clear hi); (try clear ho0); (try clear ho1); obtain ⟨Ao40, co40, eo40⟩ := Kd.fc_ HO307.out; subst eo40) | (go_at_call 34; (with_reducible refine (je_.calls _ _ t305 t312 t313 t314 _ ?side1 ?side2 A6.out).mono ?_); (case side1 => repeat (first | exact (Kd.ta_ HO307.out).2.2 | (with_reducible refine Kd.yb_ ?_ _) | (with_reducible refine Kd.zb_ ?_ _) | (with_reducible refine Kd.jc_ ?_))); (case side2 => exact (Kd.ta_ HO307.out).2.1); rintro e w41 ⟨v315, rfl, ho0, hb⟩; have n0_ := ba_.mk (Kd.wb_ (by (with_reducible repeat (first | apply Kd.la_ | apply Kd.ka_ | apply Kd.ma_)); exact HO307.out) (Kd.rc_ ho0) hb); have n1_ := ba_.mk (Kd.wb_ (by (with_reducible repeat (first | apply Kd.la_ | apply Kd.ka_ | apply Kd.ma_)); exact HO310.out) (Kd.rc_ ho0) hb); have n2_ := ba_.mk (Kd.wc_ (Kd.qc_ (Kd.qc_ ho0 (Kd.R_lt (by (with_reducible repeat (first | apply Kd.la_ | apply Kd.ka_ | apply Kd.ma_)); exact HO307.out))) (Kd.R_lt (by (with_reducible repeat (first | apply Kd.la_ | apply Kd.ka_ | apply Kd.ma_)); exact HO310.out))) (eb_ (by repeat (first | (with_reducible first | exact HB.out | apply fa_ | apply ca_ | apply ga_ | refine qa_ ?_ (ia_.ge HI300.out)) | exact HB.out)))); have n3_ := ba_.mk (ia_.below (by repeat (first | (with_reducible first | exact HI300.out | apply ia_.alloc | apply ia_.drewN | apply ia_.drew | apply ia_.ic_) | exact HI300.out)) hb); have n4_ := ba_.mk (gb_ (by repeat (first | (with_reducible first | exact HB.out | apply fa_ | apply ca_ | apply ga_ | refine qa_ ?_ (ia_.ge HI300.out)) | exact HB.out)) hb); clear HO307; clear HO310; clear HI300; clear HB; have HO307 := n0_; have HO310 := n1_; have HO316 := n2_; have HI300 := n3_; have HB := n4_; clear n0_ n1_ n2_ n3_ n4_; (try clear hb); (try clear hb2); (try clear hk); (try clear hi); (try clear ho0); obtain ⟨Ao42, co42, eo42⟩ := Kd.fc_ HO316.out; subst eo42) | (go_at_call 19; (with_reducible refine (ha_.calls k  t317 _ A35.out HRT.out).mono ?_); rintro e w43 ⟨rfl, hb⟩; have n0_ := ba_.mk (Kd.cd_ (by (with_reducible repeat (first | apply Kd.la_ | apply Kd.ka_ | apply Kd.ma_)); exact HO307.out) hb); have n1_ := ba_.mk (Kd.cd_ (by (with_reducible repeat (first | apply Kd.la_ | apply Kd.ka_ | apply Kd.ma_)); exact HO310.out) hb); have n2_ := ba_.mk (Kd.cd_ (by (with_reducible repeat (first | apply Kd.la_ | apply Kd.ka_ | apply Kd.ma_)); exact HO316.out) hb); have n3_ := ba_.mk (ia_.below (by repeat (first | (with_reducible first | exact HI300.out | apply ia_.alloc | apply ia_.drewN | apply ia_.drew | apply ia_.ic_) | exact HI300.out)) hb); have n4_ := ba_.mk (gb_ (by repeat (first | (with_reducible first | exact HB.out | apply fa_ | apply ca_ | apply ga_ | refine qa_ ?_ (ia_.ge HI300.out)) | exact HB.out)) hb); clear HO307; clear HO310; clear HO316; clear HI300; clear HB; have HO307 := n0_; have HO310 := n1_; have HO316 := n2_; have HI300 := n3_; have HB := n4_; clear n0_ n1_ n2_ n3_ n4_; (try clear hb); (try clear hb2); (try clear hk); (try clear hi))); try go_wp2_with (first | (go_at_call 22; (with_reducible refine (sb_.calls _ _ l0 t298 t299 w _ ?side1 ?side2 ?side3 A2.out).mono ?_); (case side1 => repeat (first | (with_reducible first | exact HB.out | apply fa_ | apply ca_ | apply ga_) | exact HB.out)); (case side2 => exact HR0.out); (case side3 => exact HC0.out); rintro e w36 ⟨g300, rfl, hi, hb, hb2⟩; have n0_ := ba_.mk (hb); have n1_ := ba_.mk (hi); clear HB; have HB := n0_; have HI300 := n1_; clear n0_ n1_; (try clear hb); (try clear hb2); (try clear hk); (try clear hi)) | (go_at_call 31; (with_reducible refine (oa_.calls g300 t298 t299 0 6 t301 t302 w _ ?side1 ?side2 A3.out).mono ?_); (case side1 => repeat (first | (with_reducible first | exact HI300.out | apply ia_.alloc | apply ia_.drewN | apply ia_.drew | apply ia_.ic_) | exact HI300.out)); (case side2 => repeat (first | (with_reducible first | exact HB.out | apply fa_ | apply ca_ | apply ga_ | refine qa_ ?_ (ia_.ge HI300.out)) | exact HB.out)); rintro e w37 ⟨rfl, hi, hb, hk⟩; have n0_ := ba_.mk (hb); have n1_ := ba_.mk (hi); clear HB; clear HI300; have HB := n0_; have HI300 := n1_; clear n0_ n1_; (try clear hb); (try clear hb2); (try clear hk); (try clear hi)) | (go_at_call 31; (with_reducible refine (oa_.calls g300 t298 t302 0 3 t303 t304 w _ ?side1 ?side2 A4.out).mono ?_); (case side1 => repeat (first | (with_reducible first | exact HI300.out | apply ia_.alloc | apply ia_.drewN | apply ia_.drew | apply ia_.ic_) | exact HI300.out)); (case side2 => repeat (first | (with_reducible first | exact HB.out | apply fa_ | apply ca_ | apply ga_ | refine qa_ ?_ (ia_.ge HI300.out)) | exact HB.out)); rintro e w38 ⟨rfl, hi, hb, hk⟩; have n0_ := ba_.mk (hb); have n1_ := ba_.mk (hi); clear HB; clear HI300; have HB := n0_; have HI300 := n1_; clear n0_ n1_; (try clear hb); (try clear hb2); (try clear hk); (try clear hi)) | (go_at_call 30; (with_reducible refine (da_.calls k g300 t298 t304 t301 t303 t305 t308 t311 w _ ?side1 ?side2 A5.out).mono ?_); (case side1 => repeat (first | (with_reducible first | exact HI300.out | apply ia_.alloc | apply ia_.drewN | apply ia_.drew | apply ia_.ic_) | exact HI300.out)); (case side2 => repeat (first | (with_reducible first | exact HB.out | apply fa_ | apply ca_ | apply ga_ | refine qa_ ?_ (ia_.ge HI300.out)) | exact HB.out)); rintro e w39 ⟨v306, v309, rfl, ho0, ho1, hi, hb, hk⟩; have n0_ := ba_.mk (Kd.wc_ ho0 (eb_ (by repeat (first | (with_reducible first | exact HB.out | apply fa_ | apply ca_ | apply ga_ | refine qa_ ?_ (ia_.ge HI300.out)) | exact HB.out)))); have n1_ := ba_.mk (Kd.wc_ ho1 (eb_ (by repeat (first | (with_reducible first | exact HB.out | apply fa_ | apply ca_ | apply ga_ | refine qa_ ?_ (ia_.ge HI300.out)) | exact HB.out)))); have n2_ := ba_.mk (hb); have n3_ := ba_.mk (hi); clear HB; clear HI300; have HO307 := n0_; have HO310 := n1_; have HB := n2_; have HI300 := n3_; clear n0_ n1_ n2_ n3_; (try clear hb); (try clear hb2); (try clear hk); (try clear hi); (try clear ho0); (try clear ho1); obtain ⟨Ao40, co40, eo40⟩ := Kd.fc_ HO307.out; subst eo40) | (go_at_call 34; (with_reducible refine (je_.calls _ _ t305 t312 t313 t314 _ ?side1 ?side2 A6.out).mono ?_); (case side1 => repeat (first | exact (Kd.ta_ HO307.out).2.2 | (with_reducible refine Kd.yb_ ?_ _) | (with_reducible refine Kd.zb_ ?_ _) | (with_reducible refine Kd.jc_ ?_))); (case side2 => exact (Kd.ta_ HO307.out).2.1); rintro e w41 ⟨v315, rfl, ho0, hb⟩; have n0_ := ba_.mk (Kd.wb_ (by (with_reducible repeat (first | apply Kd.la_ | apply Kd.ka_ | apply Kd.ma_)); exact HO307.out) (Kd.rc_ ho0) hb); have n1_ := ba_.mk (Kd.wb_ (by (with_reducible repeat (first | apply Kd.la_ | apply Kd.ka_ | apply Kd.ma_)); exact HO310.out) (Kd.rc_ ho0) hb); have n2_ := ba_.mk (Kd.wc_ (Kd.qc_ (Kd.qc_ ho0 (Kd.R_lt (by (with_reducible repeat (first | apply Kd.la_ | apply Kd.ka_ | apply Kd.ma_)); exact HO307.out))) (Kd.R_lt (by (with_reducible repeat (first | apply Kd.la_ | apply Kd.ka_ | apply Kd.ma_)); exact HO310.out))) (eb_ (by repeat (first | (with_reducible first | exact HB.out | apply fa_ | apply ca_ | apply ga_ | refine qa_ ?_ (ia_.ge HI300.out)) | exact HB.out)))); have n3_ := ba_.mk (ia_.below (by repeat (first | (with_reducible first | exact HI300.out | apply ia_.alloc | apply ia_.drewN | apply ia_.drew | apply ia_.ic_) | exact HI300.out)) hb); have n4_ := ba_.mk (gb_ (by repeat (first | (with_reducible first | exact HB.out | apply fa_ | apply ca_ | apply ga_ | refine qa_ ?_ (ia_.ge HI300.out)) | exact HB.out)) hb); clear HO307; clear HO310; clear HI300; clear HB; have HO307 := n0_; have HO310 := n1_; have HO316 := n2_; have HI300 := n3_; have HB := n4_; clear n0_ n1_ n2_ n3_ n4_; (try clear hb); (try clear hb2); (try clear hk); (try clear hi); (try clear ho0); obtain ⟨Ao42, co42, eo42⟩ := Kd.fc_ HO316.out; subst eo42) | (go_at_call 19; (with_reducible refine (ha_.calls k  t317 _ A35.out HRT.out).mono ?_); rintro e w43 ⟨rfl, hb⟩; have n0_ := ba_.mk (Kd.cd_ (by (with_reducible repeat (first | apply Kd.la_ | apply Kd.ka_ | apply Kd.ma_)); exact HO307.out) hb); have n1_ := ba_.mk (Kd.cd_ (by (with_reducible repeat (first | apply Kd.la_ | apply Kd.ka_ | apply Kd.ma_)); exact HO310.out) hb); have n2_ := ba_.mk (Kd.cd_ (by (with_reducible repeat (first | apply Kd.la_ | apply Kd.ka_ | apply Kd.ma_)); exact HO316.out) hb); have n3_ := ba_.mk (ia_.below (by repeat (first | (with_reducible first | exact HI300.out | apply ia_.alloc | apply ia_.drewN | apply ia_.drew | apply ia_.ic_) | exact HI300.out)) hb); have n4_ := ba_.mk (gb_ (by repeat (first | (with_reducible first | exact HB.out | apply fa_ | apply ca_ | apply ga_ | refine qa_ ?_ (ia_.ge HI300.out)) | exact HB.out)) hb); clear HO307; clear HO310; clear HO316; clear HI300; clear HB; have HO307 := n0_; have HO310 := n1_; have HO316 := n2_; have HI300 := n3_; have HB := n4_; clear n0_ n1_ n2_ n3_ n4_; (try clear hb); (try clear hb2); (try clear hk); (try clear hi))))
     go_ret
     exact ⟨by first | rfl | (simp [bb_, cb_] <;> rfl) | (simp [*, bb_, cb_] <;> rfl), by repeat (first | (with_reducible first | exact HB.out | apply fa_ | apply ca_ | apply ga_ | refine qa_ ?_ (ia_.ge HI300.out)) | exact HB.out)⟩
    ·rw [if_neg c34] at H
     have c34b0 : (t313 == 0) = false := beq_eq_false_iff_ne.mpr c34
     have c34b1 : (t313 != 0) = true := bne_iff_ne.mpr c34
     exact absurd ((Option.some.inj H).trans HRT.out) (by decide)
   ·rw [if_neg c33] at H
    have c33b0 : ((t312.length : Int) == 0) = false := beq_eq_false_iff_ne.mpr c33
    try have c33b9 := eq_false (beq_eq_false_iff_ne.mp c33b0)
    have c33b1 : ((t312.length : Int) != 0) = true := bne_iff_ne.mpr c33
    have c33b2 : ¬ (t312 = []) := fun h_ => c33 (by rw [h_]; rfl)
    exact absurd ((Option.some.inj H).trans HRT.out) (by decide)
  ·rw [if_neg c32] at H
   have c32b0 : (t314 == 25) = false := beq_eq_false_iff_ne.mpr c32
   have c32b1 : (t314 != 25) = true := bne_iff_ne.mpr c32
   exact absurd ((Option.some.inj H).trans HRT.out) (by decide)
def za_.Pure : Prop := ∀ (l0 : List Int), l0.length ≤ maxLen → l0.length * 8 ≤ 140737488351232 → (∀ x ∈ l0, (Lit.int .i64 x).wf = true) → ∃ k, za_.f k l0 = some true
theorem za_.walk (P : za_.Pure) (a0 : Option Addr) (len0 cap0 : Nat) (z0 : List Int) (w : World) (w0 : (a0 = none ∧ len0 = 0 ∧ cap0 = 0 ∧ z0 = []) ∨ ∃ x, a0 = some x ∧ len0 ≤ cap0 ∧ cap0 ≤ maxLen ∧ z0.length = cap0 ∧ (∀ i, i < z0.length → w.cell? (x.add i) = some (.int .i64 (z0.getD i 0))) ∧ ∀ n ∈ z0, (Lit.int .i64 n).wf = true) (y0 : len0 * 8 ≤ 140737488351232) :
  Calls Try.prog 10 #[.slice a0 len0 cap0] w fun e w' => e = .returned (.bool true) ∧ Below w.heap.size w w' := by
 obtain ⟨l0, rfl, hr0, hm0, hw0, hc0⟩ := le_.vk_ w0
 obtain ⟨k, h⟩ := P l0 hm0 y0 hw0
 refine (za_.calls k _ _ l0 true w (Kd.ue_ (d := (0 : Int)) (h1 := fun _ => rfl) hr0) hc0 h rfl).mono ?_
 rintro e w' ⟨rfl, hd⟩
 exact ⟨rfl, hd⟩
end Go.Proofs.Ytpkhgapifnjbeaa.Y
end
section
namespace Go.Proofs.Ytpkhgapifnjbeaa.Pure
set_option linter.unusedVariables false
set_option linter.unusedSimpArgs false
open Go.RowKit Go.Proofs.Ytpkhgapifnjbeaa.Y Go.Proofs.YtpkhgapifnjbeaaW.PrintWords Go.Proofs.YtpkhgapifnjbeaaW.PrintLast Go.Proofs.YtpkhgapifnjbeaaW.PrintMore Go.Proofs.Ytpkhgapifnjbeaa.G Go.Proofs.Ytpkhgapifnjbeaa.Rs
theorem tg_ (a b : List Int) (hl : a.length = b.length) (h : a.length ≤ 1000) : ∀ (d i k : Nat), i + d = a.length → d < k → (∀ j, j < i → a.getD j 0 = b.getD j 0) → aa_.l0 k a b (i : Int) = some (decide (a = b)) := by
 intro d
 induction d with
 | zero =>
  intro i k hi hk hz
  obtain ⟨k, rfl⟩ : ∃ m, k = m + 1 := ⟨k - 1, by omega⟩
  simp only [aa_.l0]
  rw [if_neg (by omega)]
  have : a = b := List.ext_getElem hl fun j h1 h2 => by
   have := hz j (by omega)
   rwa [List.getD_eq_getElem?_getD, List.getD_eq_getElem?_getD, List.getElem?_eq_getElem h1, List.getElem?_eq_getElem h2] at this
  rw [decide_eq_true this]
 | succ d ih =>
  intro i k hi hk hz
  obtain ⟨k, rfl⟩ : ∃ m, k = m + 1 := ⟨k - 1, by omega⟩
  have hs : wrap64 ((i : Int) + 1) = ((i + 1 : Nat) : Int) := by unfold wrap64; omega
  simp only [aa_.l0]
  rw [if_pos (by omega), if_pos (by omega), if_pos (by omega), zd_, zd_, hs]
  by_cases e : a.getD i 0 = b.getD i 0
  ·rw [if_pos e]
   refine ih (i + 1) k (by omega) (by omega) fun j hj => ?_
   rcases Nat.lt_or_ge j i with h | h
   ·exact hz j h
   ·rw [show j = i from by omega]; exact e
  ·rw [if_neg e, decide_eq_false (fun q => e (by rw [q]))]
theorem rg_ (a b : List Int) (h : a.length ≤ 1000) (k : Nat) (hk : 1001 ≤ k) : aa_.f k a b = some (decide (a = b)) := by
 unfold aa_.f
 by_cases hl : a.length = b.length
 ·rw [if_pos (by omega)]
  exact tg_ a b hl h a.length 0 k (by omega) (by omega) (fun j hj => by omega)
 ·rw [if_neg (by omega), decide_eq_false (fun q => hl (by rw [q]))]
theorem ze_ : oe_ [3, 1] = true := by decide +kernel
theorem ki_ : mulI 16 2 = 5 := by decide +kernel
theorem inv2 : invI 2 = 18 := by decide +kernel
theorem pg_ (k : Nat) (hk : 1001 ≤ k) : ha_.f k = some true := by
 have e1 : ge_.f [3, 1] = some (encC [3, 1], 0) := by
  unfold ge_.f encS
  rw [if_pos (by decide), if_pos ze_]
 have e2 : je_.f (encC [3, 1]) = some ([3, 1], 0, 0) := by
  unfold je_.f
  rw [wj_ ze_]
 have e3 : ee_.f (encC [3, 1]) = some true := by unfold ee_.f; rw [xe_ ze_]
 have e4 : (encC [3, 1]).length = 8 := cf_ ze_
 have e5 := rg_ [3, 1] [3, 1] (by decide) k hk
 unfold ha_.f
 rw [e1]
 simp only [Option.bind_some]
 rw [e2]
 simp only [Option.bind_some, ud_.f, nc_.f, ki_, inv2, e3, e4, e5]
 simp
end Go.Proofs.Ytpkhgapifnjbeaa.Pure
end
section
namespace Go.Proofs.Ytpkhgapifnjbeaa.Pure
set_option linter.unusedVariables false
set_option linter.unusedSimpArgs false
open Go.RowKit Go.Proofs.Ytpkhgapifnjbeaa.Y Go.Proofs.YtpkhgapifnjbeaaW.PrintWords Go.Proofs.YtpkhgapifnjbeaaW.PrintLast Go.Proofs.YtpkhgapifnjbeaaW.PrintMore Go.Proofs.Ytpkhgapifnjbeaa.G Go.Proofs.Ytpkhgapifnjbeaa.Rs
theorem wg_ (a b : Int) (h1 : 1 ≤ b) : (if Int.tmod a b < 0 then Int.tmod a b + b else Int.tmod a b) = a % b ∧ -b < Int.tmod a b := by
 have h := Int.emod_nonneg a (b := b) (by omega)
 have h' := Int.emod_lt_of_pos a (show 0 < b by omega)
 have e := @Int.tmod_eq_emod a b
 by_cases c : 0 ≤ a ∨ b ∣ a
 ·rw [if_pos c] at e
  rw [if_neg (by omega)]; omega
 ·rw [if_neg c] at e
  have : a % b ≠ 0 := fun q => c (.inr (Int.dvd_of_emod_eq_zero q))
  rw [if_pos (by omega)]; omega
theorem wk_ (a b : Int) (h1 : 1 ≤ b) (h2 : b ≤ 1000000) : ab_.f a b = some (a % b) := by
 obtain ⟨e, h⟩ := wg_ a b h1
 unfold ab_.f
 rw [if_neg (by omega), if_neg (by omega)]
 by_cases c : Int.tmod a b < 0
 ·rw [if_pos c] at e
  rw [if_pos c, show wrap64 (Int.tmod a b + b) = Int.tmod a b + b from by unfold wrap64; omega, e]
 ·rw [if_neg c] at e
  rw [if_neg c, e]
theorem w64 {x : Int} (h0 : -1000000000 ≤ x) (h1 : x ≤ 1000000000) : wrap64 x = x := by unfold wrap64; omega
theorem kl_ (i : Nat) (h : i ≤ 1000000) : wrap64 ((i : Int) + 1) = ((i + 1 : Nat) : Int) := by rw [w64 (by omega) (by omega)]; rfl
theorem dq_ (i : Nat) (h : i ≤ 1000000) : wrap64 (((i + 1 : Nat) : Int) - 1) = (i : Int) := by rw [w64 (by omega) (by omega)]; omega
theorem pj_ (a b : Nat) (h : a ≤ 1000000) (h2 : b ≤ 1000000) : wrap64 ((a : Int) + (b : Int)) = ((a + b : Nat) : Int) := by rw [w64 (by omega) (by omega)]; rfl
def TA (p : Int) : Prop := 0 ≤ p ∧ p ≤ 600
theorem rn_ (l : List Int) : ∃ L, sb_.f l = some (L, 0) ∧ L.length ≤ 600 ∧ TA 0 := by
 unfold sb_.f
 by_cases h : (l.length : Int) > 600
 ·rw [if_pos h, if_pos (by omega)]
  exact ⟨_, rfl, by rw [List.length_take]; omega, by unfold TA; omega⟩
 ·rw [if_neg h]
  exact ⟨l, rfl, by omega, by unfold TA; omega⟩
theorem tn_ {L : List Int} (hL : L.length ≤ 600) {p : Int} (hp : TA p) : ∃ v q, lb_.f L p = some (v, q) ∧ TA q := by
 unfold TA at hp
 unfold lb_.f
 by_cases h : p ≥ (L.length : Int)
 ·rw [if_pos h]; exact ⟨_, _, rfl, hp⟩
 ·have e1 : wrap64 (p + 1) = p + 1 := by unfold wrap64; omega
  have e2 : wrap64 (p + 1 - 1) = p := by unfold wrap64; omega
  rw [if_neg h, e1, e2, if_pos (by omega), if_pos (by omega)]
  exact ⟨_, _, rfl, by unfold TA; omega⟩
theorem tf_ {L : List Int} (hL : L.length ≤ 600) {p : Int} (hp : TA p) (n : Int) (h1 : 1 ≤ n) (h2 : n ≤ 1000000) : ∃ v q, na_.f L p n = some (v, q) ∧ 0 ≤ v ∧ v < n ∧ TA q := by
 obtain ⟨v, q, e, hq⟩ := tn_ hL hp
 unfold na_.f
 rw [e]
 simp only [Option.bind_some]
 rw [wk_ v n h1 h2]
 exact ⟨_, _, rfl, Int.emod_nonneg _ (by omega), Int.emod_lt_of_pos _ (by omega), hq⟩
theorem wf_ {L : List Int} (hL : L.length ≤ 600) {p : Int} (hp : TA p) (a b : Int) (h0 : -1000 ≤ a) (h1 : a ≤ b) (h2 : b ≤ 100000) : ∃ v q, oa_.f L p a b = some (v, q) ∧ a ≤ v ∧ v ≤ b ∧ TA q := by
 have e1 : wrap64 (wrap64 (b - a) + 1) = b - a + 1 := by unfold wrap64; omega
 obtain ⟨v, q, e, v0, v1, hq⟩ := tf_ hL hp (b - a + 1) (by omega) (by omega)
 unfold oa_.f
 rw [e1, e]
 simp only [Option.bind_some]
 have e2 : wrap64 (a + v) = a + v := by unfold wrap64; omega
 rw [e2]
 exact ⟨_, _, rfl, by omega, by omega, hq⟩
theorem pk_ {l : List Int} {n a : Nat} (hn : l.Nodup) (hm : ∀ y ∈ l, 0 ≤ y ∧ y < (n : Int)) : (l.take a ++ [(n : Int)] ++ l.drop a).Nodup ∧ (∀ y ∈ l.take a ++ [(n : Int)] ++ l.drop a, 0 ≤ y ∧ y < ((n + 1 : Nat) : Int)) ∧ (l.take a ++ [(n : Int)] ++ l.drop a).length = l.length + 1 := by
 have hp : (l.take a ++ [(n : Int)] ++ l.drop a).Perm ((n : Int) :: l) := by
  have : (l.take a ++ [(n : Int)] ++ l.drop a).Perm ([(n : Int)] ++ l.take a ++ l.drop a) := (List.perm_append_comm).append_right _
  refine this.trans ?_
  rw [List.append_assoc, List.take_append_drop]; exact List.Perm.refl _
 refine ⟨hp.nodup_iff.2 (List.nodup_cons.2 ⟨fun h => by have := hm _ h; omega, hn⟩), fun y hy => ?_, by rw [hp.length_eq]; rfl⟩
 rcases List.mem_cons.1 (hp.mem_iff.1 hy) with rfl | h
 ·omega
 ·have := hm y h; omega
theorem ok_ {L : List Int} (hL : L.length ≤ 600) (n : Nat) (hn : n ≤ 1000) : ∀ (d i k : Nat) (p : Int) (ys : List Int), i + d = n → d < k → TA p → ys.length = i → ys.Nodup → (∀ y ∈ ys, 0 ≤ y ∧ y < (i : Int)) → ∃ zs q, ja_.l0 k (n : Int) ys (i : Int) L p = some (zs, q) ∧ zs.length = n ∧ zs.Nodup ∧ (∀ y ∈ zs, 0 ≤ y ∧ y < (n : Int)) ∧ TA q := by
 intro d
 induction d with
 | zero =>
  intro i k p ys hi hk hp hl hd hm
  obtain ⟨k, rfl⟩ : ∃ m, k = m + 1 := ⟨k - 1, by omega⟩
  simp only [ja_.l0]
  rw [if_neg (by omega)]
  obtain rfl : i = n := by omega
  exact ⟨_, _, rfl, hl, hd, hm, hp⟩
 | succ d ih =>
  intro i k p ys hi hk hp hl hd hm
  obtain ⟨k, rfl⟩ : ∃ m, k = m + 1 := ⟨k - 1, by omega⟩
  have e1 : wrap64 ((i : Int) + 1) = ((i + 1 : Nat) : Int) := by unfold wrap64; omega
  obtain ⟨v, q, e, v0, v1, hq⟩ := tf_ hL hp ((i + 1 : Nat) : Int) (by omega) (by omega)
  obtain ⟨a, rfl⟩ := Int.eq_ofNat_of_zero_le v0
  obtain ⟨g1, g2, g3⟩ := pk_ (a := a) hd hm
  simp only [ja_.l0]
  rw [if_pos (by omega), e1, e]
  simp only [Option.bind_some]
  have l1 : (ys.take a).length ≤ ys.length := by rw [List.length_take]; omega
  have l2 : (ys.drop a).length ≤ ys.length := by rw [List.length_drop]; omega
  rw [if_pos (by omega), if_pos (by omega), show (a : Int).toNat = a from rfl]
  simp only [List.nil_append, List.length_nil, Nat.zero_add]
  rw [if_pos (by omega), if_pos (by omega)]
  rw [if_pos (by rw [List.length_append, List.length_singleton]; omega)]
  exact ih (i + 1) k q _ (by omega) (by omega) hq (by omega) g1 g2
theorem jm_ {L : List Int} (hL : L.length ≤ 600) {p : Int} (hp : TA p) (n : Nat) (hn : n ≤ 1000) (k : Nat) (hk : n < k) : ∃ zs q, ja_.f k L p (n : Int) = some (zs, q) ∧ zs.length = n ∧ zs.Nodup ∧ (∀ y ∈ zs, 0 ≤ y ∧ y < (n : Int)) ∧ TA q := by
 unfold ja_.f
 exact ok_ hL n hn n 0 k p [] (by omega) hk hp rfl List.nodup_nil (by simp)
end Go.Proofs.Ytpkhgapifnjbeaa.Pure
end
section
namespace Go.Proofs.Ytpkhgapifnjbeaa.Pure
set_option linter.unusedVariables false
set_option linter.unusedSimpArgs false
open Go.RowKit Go.Proofs.Ytpkhgapifnjbeaa.Y Go.Proofs.YtpkhgapifnjbeaaW.PrintWords Go.Proofs.YtpkhgapifnjbeaaW.PrintLast Go.Proofs.YtpkhgapifnjbeaaW.PrintMore Go.Proofs.Ytpkhgapifnjbeaa.G Go.Proofs.Ytpkhgapifnjbeaa.Rs
structure Dmg (c x : List Int) (e r : Nat) : Prop where
 len : x.length = c.length
 err : errN x c c.length = e
 era : (eraN x c.length).length = r
 sym : ∀ i, i < c.length → -1 ≤ x.getD i 0 ∧ x.getD i 0 ≤ 31
theorem Dmg.word {c x : List Int} {e r : Nat} (h : Dmg c x e r) (hc : ve_ c = true) : isWord x (-1) = true := by
 have hw := me_ (ye_ hc).1
 have := h.len
 refine om_ ⟨by omega, by omega⟩ fun y hy => ?_
 obtain ⟨i, hi, e1⟩ := aj_ hy
 rw [← e1]; exact h.sym i (by omega)
theorem Dmg.near {c x : List Int} {e r : Nat} (h : Dmg c x e r) (hc : ve_ c = true) (h6 : 2 * e + r ≤ 6) : Near x c :=
 ⟨hc, h.len.symm, by rw [h.len, h.err, h.era]; exact h6⟩
theorem iq_ {a v : Int} (ha : isEl a = true) (h0 : 1 ≤ v) (h1 : v ≤ 31) : 0 ≤ xorI a v ∧ xorI a v ≤ 31 ∧ xorI a v ≠ a := by
 have hv : isEl v = true := (xd_ v).2 ⟨by omega, by omega⟩
 have e := in_ ha hv
 rw [ml_ ha hv]
 have := br_ (toG a + toG v)
 refine ⟨by omega, by omega, fun q => ?_⟩
 have e2 : toG a + toG v = toG a := by rw [← yf_ (toG a + toG v), q]
 have e3 : toG v = 0 := by
  have : toG a + (toG a + toG v) = toG a + toG a := by rw [e2]
  rw [← GF.add_assoc, GF.sg_, GF.zero_add] at this; exact this
 have := (xi_ hv).1 e3
 omega
structure Inv (c ord : List Int) (e : Nat) (i : Nat) (x : List Int) : Prop where
 dm : Dmg c x (min i e) (i - min i e)
 rest : ∀ j, i ≤ j → j < ord.length → x.getD (ord.getD j 0).toNat 0 = c.getD (ord.getD j 0).toNat 0
theorem el_ {ord : List Int} {n i : Nat} (hn : ord.length = n) (hr : ∀ y ∈ ord, 0 ≤ y ∧ y < (n : Int)) (hi : i < n) : ∃ a : Nat, ord.getD i 0 = (a : Int) ∧ a < n := by
 have := hr _ (pf_ (d := ord) (i := i) (by omega))
 exact ⟨(ord.getD i 0).toNat, by omega, by omega⟩
theorem qp_ {ord : List Int} {i j : Nat} (hd : ord.Nodup) (hi : i < ord.length) (hj : j < ord.length) (h : i ≠ j) : ord.getD i 0 ≠ ord.getD j 0 := by
 rw [List.getD_eq_getElem?_getD, List.getD_eq_getElem?_getD, List.getElem?_eq_getElem hi, List.getElem?_eq_getElem hj]
 simp only [Option.getD_some]
 intro q
 rcases Nat.lt_or_gt_of_ne h with c | c
 ·exact List.pairwise_iff_getElem.1 hd i j hi hj c q
 ·exact List.pairwise_iff_getElem.1 hd j i hj hi c q.symm
theorem ji_ {c ord : List Int} {n i a : Nat} {x : List Int} {v : Int} (hn : ord.length = n) (hd : ord.Nodup) (hr : ∀ y ∈ ord, 0 ≤ y ∧ y < (n : Int)) (hi : i < n) (ha : ord.getD i 0 = (a : Int))
  (h : ∀ j, i ≤ j → j < ord.length → x.getD (ord.getD j 0).toNat 0 = c.getD (ord.getD j 0).toNat 0) : ∀ j, i + 1 ≤ j → j < ord.length → (x.set a v).getD (ord.getD j 0).toNat 0 = c.getD (ord.getD j 0).toNat 0 := by
 intro j hj hjl
 obtain ⟨b, hb, _⟩ := el_ hn hr (show j < n by omega)
 have := qp_ hd (show i < ord.length by omega) hjl (by omega)
 rw [ha, hb] at this
 rw [ig_, if_neg (fun q => this (by rw [hb] at q; have := q.1; omega))]
 exact h j (by omega) hjl
theorem nm_ {L c ord : List Int} {n e r : Nat} (D : List Int) (hL : L.length ≤ 600) (hc : ve_ c = true) (hcn : c.length = n) (hn : ord.length = n) (hd : ord.Nodup) (hr : ∀ y ∈ ord, 0 ≤ y ∧ y < (n : Int)) (he : e ≤ 1000) (hre : r ≤ 1000) :
  ∀ (d i k : Nat) (p : Int) (x : List Int), i + d = min (e + r) n → 2 * d + 1 < k → TA p → Inv c ord e i x →
   ∃ x' q, da_.l1 k (e : Int) (r : Int) D x ord (i : Int) L p = some (x', D, q) ∧ Inv c ord e (min (e + r) n) x' ∧ TA q := by
 have hn15 := (me_ (ye_ hc).1).2.1
 intro d
 induction d with
 | zero =>
  intro i k p x hi hk hp hI
  obtain ⟨k, rfl⟩ : ∃ m, k = m + 1 := ⟨k - 1, by omega⟩
  obtain ⟨k, rfl⟩ : ∃ m, k = m + 1 := ⟨k - 1, by omega⟩
  have hi' : i = min (e + r) n := by omega
  have hend : da_.l1 (k + 1 + 1) (e : Int) (r : Int) D x ord (i : Int) L p = some (x, D, p) := by
   simp only [da_.l1]
   rw [pj_ e r (by omega) (by omega)]
   by_cases h : (i : Int) < ((e + r : Nat) : Int)
   ·rw [if_pos h, decide_eq_false (by omega)]
    simp only [da_.j2, Bool.false_eq_true, if_false]
   ·rw [if_neg h]
    simp only [da_.j2, Bool.false_eq_true, if_false]
  exact ⟨x, p, hend, by rw [← hi']; exact hI, hp⟩
 | succ d ih =>
  intro i k p x hi hk hp hI
  obtain ⟨k, rfl⟩ : ∃ m, k = m + 1 := ⟨k - 1, by omega⟩
  obtain ⟨k, rfl⟩ : ∃ m, k = m + 1 := ⟨k - 1, by omega⟩
  have hin : i < n := by omega
  obtain ⟨a, ha, han⟩ := el_ hn hr hin
  have hrd : rd ord (i : Int) = (a : Int) := by rw [zd_, ha]
  have hxa : x.getD a 0 = c.getD a 0 := by have := hI.rest i (Nat.le_refl _) (by omega); rw [ha] at this; exact this
  have hel := fh_ hc a (by omega)
  have hel' := (xd_ _).1 hel
  have hxl : x.length = n := by rw [hI.dm.len, hcn]
  simp only [da_.l1]
  rw [pj_ e r (by omega) (by omega), if_pos (by omega), decide_eq_true (by omega)]
  simp only [da_.j2, if_true]
  by_cases hlt : (i : Int) < (e : Int)
  ·rw [if_pos hlt, if_pos (by omega), if_pos (by omega), hrd, if_pos (by omega), if_pos (by omega)]
   obtain ⟨v, q, e3, v0, v1, hq⟩ := wf_ hL hp 1 31 (by omega) (by omega) (by omega)
   rw [e3]
   simp only [Option.bind_some]
   rw [kl_ i (by omega), zd_, Int.toNat_natCast]
   obtain ⟨x0, x1, x2⟩ := iq_ hel v0 v1
   rw [show Go.bits .xor .i64 (x.getD a 0) v = xorI (c.getD a 0) v from by rw [hxa]; rfl]
   refine ih (i + 1) k q _ (by omega) (by omega) hq ⟨⟨by rw [List.length_set, hI.dm.len], ?_, ?_, ?_⟩, ji_ hn hd hr hin ha hI.rest⟩
   ·rw [fs_ (by omega) hxa x0 x2, hI.dm.err, if_pos (by omega)]; omega
   ·rw [sj_ (by omega) (by rw [hxa]; omega) x0, hI.dm.era]; omega
   ·intro j hj
    rw [ig_]
    by_cases h : a = j ∧ a < x.length
    ·rw [if_pos h]; omega
    ·rw [if_neg h]; exact hI.dm.sym j hj
  ·rw [if_neg hlt, if_pos (by omega), if_pos (by omega), hrd, if_pos (by omega), if_pos (by omega), kl_ i (by omega), Int.toNat_natCast]
   refine ih (i + 1) k p _ (by omega) (by omega) hp ⟨⟨by rw [List.length_set, hI.dm.len], ?_, ?_, ?_⟩, ji_ hn hd hr hin ha hI.rest⟩
   ·rw [um_ (by omega) hxa (by omega), hI.dm.err]; omega
   ·rw [sm_ (by omega) (by rw [hxa]; omega) (by omega), hI.dm.era, if_pos (by omega)]; omega
   ·intro j hj
    rw [ig_]
    by_cases h : a = j ∧ a < x.length
    ·rw [if_pos h]; omega
    ·rw [if_neg h]; exact hI.dm.sym j hj
theorem nj_ {c ord : List Int} {e n : Nat} (hc : ve_ c = true) : Inv c ord e 0 c := by
 refine ⟨⟨rfl, by rw [sl_]; omega, by rw [rm_ hc _ (Nat.le_refl _)]; simp, fun i hi => ?_⟩, fun _ _ _ => rfl⟩
 have := (xd_ _).1 (fh_ hc i hi)
 omega
theorem mm_ {L : List Int} {e r : Nat} (hL : L.length ≤ 600) (he : e ≤ 1000) (hre : r ≤ 1000) : ∀ (m k : Nat) (p : Int) (D : List Int), m + 40 < k → TA p → 1 ≤ D.length + m → D.length + m ≤ 9 → (∀ y ∈ D, isEl y = true) →
   ∃ x d q, da_.l0 k (e : Int) (r : Int) D (m : Int) L p = some (x, d, q) ∧ oe_ d = true ∧ Dmg (encC d) x (min e (d.length + 6)) (min (e + r) (d.length + 6) - min e (d.length + 6)) ∧ TA q := by
 intro m
 induction m with
 | zero =>
  intro k p D hk hp h1 h9 hel
  obtain ⟨k, rfl⟩ : ∃ m, k = m + 1 := ⟨k - 1, by omega⟩
  have hdat : oe_ D = true := by
   unfold oe_
   simp only [Bool.and_eq_true, decide_eq_true_eq, List.all_eq_true]
   exact ⟨⟨by omega, by omega⟩, hel⟩
  have eE : pi_.f D = some (encC D, 0) := by
   unfold pi_.f encS
   rw [if_pos (by omega), if_pos hdat]
  have hl := cf_ hdat
  obtain ⟨ord, q, eO, o1, o2, o3, hq⟩ := jm_ hL hp (encC D).length (by omega) k (by omega)
  simp only [da_.l0]
  rw [if_neg (by omega), eE]
  simp only [Option.bind_some]
  rw [eO]
  simp only [Option.bind_some]
  obtain ⟨x, q', e5, hI, hq'⟩ := nm_ (n := (encC D).length) (e := e) (r := r) D hL (xe_ hdat) rfl o1 o2 o3 he hre (min (e + r) (encC D).length) 0 k q (encC D) (by omega) (by omega) hq (nj_ (n := 0) (xe_ hdat))
  refine ⟨x, D, q', e5, hdat, ?_, hq'⟩
  have hdm := hI.dm
  rw [hl] at hdm
  have g1 : min (min (e + r) (D.length + 6)) e = min e (D.length + 6) := by omega
  rw [g1] at hdm
  exact hdm
 | succ m ih =>
  intro k p D hk hp h1 h9 hel
  obtain ⟨k, rfl⟩ : ∃ m, k = m + 1 := ⟨k - 1, by omega⟩
  obtain ⟨v, q, e3, v0, v1, hq⟩ := tf_ hL hp 32 (by omega) (by omega)
  simp only [da_.l0]
  rw [if_pos (by omega), e3]
  simp only [Option.bind_some]
  rw [if_pos (by omega), dq_ m (by omega)]
  refine ih k q (D ++ [v]) (by omega) hq (by rw [List.length_append, List.length_singleton]; omega) (by rw [List.length_append, List.length_singleton]; omega) fun y hy => ?_
  rcases List.mem_append.1 hy with h | h
  ·exact hel y h
  ·rw [List.mem_singleton.1 h]; exact (xd_ v).2 ⟨v0, v1⟩
theorem fq_ {L : List Int} {e r : Nat} (hL : L.length ≤ 600) (he : e ≤ 1000) (hre : r ≤ 1000) {p : Int} (hp : TA p) (k : Nat) (hk : 50 ≤ k) :
   ∃ x d q, da_.f k L p (e : Int) (r : Int) = some (x, d, q) ∧ oe_ d = true ∧ Dmg (encC d) x (min e (d.length + 6)) (min (e + r) (d.length + 6) - min e (d.length + 6)) ∧ TA q := by
 obtain ⟨v, q, e3, v0, v1, hq⟩ := wf_ hL hp 1 9 (by omega) (by omega) (by omega)
 obtain ⟨m, rfl⟩ := Int.eq_ofNat_of_zero_le (show (0 : Int) ≤ v by omega)
 unfold da_.f
 rw [e3]
 simp only [Option.bind_some]
 exact mm_ hL he hre m k q [] (by omega) hq (by simp; omega) (by simp; omega) (by simp)
end Go.Proofs.Ytpkhgapifnjbeaa.Pure
end
section
namespace Go.Proofs.Ytpkhgapifnjbeaa.Pure
set_option linter.unusedVariables false
set_option linter.unusedSimpArgs false
open Go.RowKit Go.Proofs.Ytpkhgapifnjbeaa.Y Go.Proofs.YtpkhgapifnjbeaaW.PrintWords Go.Proofs.YtpkhgapifnjbeaaW.PrintLast Go.Proofs.YtpkhgapifnjbeaaW.PrintMore Go.Proofs.Ytpkhgapifnjbeaa.G Go.Proofs.Ytpkhgapifnjbeaa.Rs
theorem fe1_ {x c : List Int} (hc : ve_ c = true) (hl : x.length = c.length) (hs : ∀ i, i < c.length → -1 ≤ x.getD i 0) (h6 : 2 * errN x c c.length + (eraN x c.length).length ≤ 6) :
  ∀ (d i k : Nat), i + d = c.length → d + 1002 < k → za_.l0 k x ((errN x c c.length : Nat) : Int) c ((errN x c i : Nat) : Int) (((eraN x i).length : Nat) : Int) (i : Int) = some true := by
 have hw := me_ (ye_ hc).1
 intro d
 induction d with
 | zero =>
  intro i k hi hk
  obtain ⟨k, rfl⟩ : ∃ m, k = m + 1 := ⟨k - 1, by omega⟩
  obtain rfl : i = c.length := by omega
  simp only [za_.l0]
  have e1 : wrap64 (wrap64 (2 * ((errN x c c.length : Nat) : Int)) + (((eraN x c.length).length : Nat) : Int)) = 2 * ((errN x c c.length : Nat) : Int) + (((eraN x c.length).length : Nat) : Int) := by unfold wrap64; omega
  rw [if_neg (by omega), if_pos trivial, e1, if_pos (by omega), pg_ k (by omega)]; rfl
 | succ d ih =>
  intro i k hi hk
  obtain ⟨k, rfl⟩ : ∃ m, k = m + 1 := ⟨k - 1, by omega⟩
  have l1 := sy_ x c i
  have l2 := es_ x i
  have hi1 : wrap64 ((i : Int) + 1) = ((i + 1 : Nat) : Int) := by unfold wrap64; omega
  have hx := hs i (by omega)
  have hci := (xd_ _).1 (fh_ hc i (by omega))
  have g := ih (i + 1) k (by omega) (by omega)
  simp only [za_.l0]
  rw [if_pos (by omega), if_pos (by omega), zd_, zd_, hi1]
  simp only [errN, eraN, List.length_append] at g
  by_cases h : x.getD i 0 = -1
  ·have hr1 : wrap64 ((((eraN x i).length : Nat) : Int) + 1) = (((eraN x i).length + 1 : Nat) : Int) := by unfold wrap64; omega
   rw [if_neg (by omega), if_pos (by omega)] at g
   rw [if_pos h, hr1]
   exact g
  ·rw [if_neg h, if_pos (by omega)]
   by_cases h2 : x.getD i 0 = c.getD i 0
   ·rw [if_neg (by omega), if_neg (by omega)] at g
    rw [if_pos h2]
    exact g
   ·have hr1 : wrap64 (((errN x c i : Nat) : Int) + 1) = ((errN x c i + 1 : Nat) : Int) := by unfold wrap64; omega
    rw [if_pos (by omega), if_neg (by omega)] at g
    rw [if_neg h2, hr1]
    exact g
theorem qw_ : za_.Pure := by
 intro t _ _ _
 refine ⟨1200, ?_⟩
 unfold za_.f
 obtain ⟨L, e0, hL, hp⟩ := rn_ t
 rw [e0]
 simp only [Option.bind_some]
 obtain ⟨v, q, e1, v0, v1, hq⟩ := wf_ hL hp 0 6 (by omega) (by omega) (by omega)
 obtain ⟨e, rfl⟩ := Int.eq_ofNat_of_zero_le v0
 rw [e1]
 simp only [Option.bind_some]
 obtain ⟨u, q2, e2, u0, u1, hq2⟩ := wf_ hL hq 0 3 (by omega) (by omega) (by omega)
 obtain ⟨r, rfl⟩ := Int.eq_ofNat_of_zero_le u0
 rw [e2]
 simp only [Option.bind_some]
 obtain ⟨x, d, q3, e3, hd, hm, hq3⟩ := fq_ (e := e) (r := r) hL (by omega) (by omega) hq2 1200 (by omega)
 rw [e3]
 simp only [Option.bind_some]
 have hw := hm.word (xe_ hd)
 by_cases hN : ∃ c, Near x c
 ·obtain ⟨c, hc⟩ := hN
  have hn := hc.near
  have hl := hc.len
  rw [← hl] at hn
  have hdec : je_.f x = some (c.take (c.length - 6), ((errN x c c.length : Nat) : Int), 0) := by
   unfold je_.f; rw [gm_, ak_ hw hc, hl]
  obtain ⟨c1, c2⟩ := sv_ hc.code
  have henc : ge_.f (c.take (c.length - 6)) = some (c, 0) := by
   unfold ge_.f encS
   rw [if_pos (by have := (bf_ c1).2.1; omega), if_pos c1, c2]
  rw [hdec]
  simp only [Option.bind_some, if_true]
  rw [henc]
  simp only [Option.bind_some, if_true]
  rw [show (((c.length : Nat) : Int) != ((x.length : Nat) : Int)) = false from by rw [hl]; simp]
  simp only [za_.j0, Bool.false_eq_true, if_false]
  refine fe1_ hc.code hl.symm (fun i hi => ?_) hn c.length 0 1199 (by omega) (by have := (me_ (ye_ hc.code).1).2.1; omega)
  have := (me_ hw).2.2 _ (pf_ (d := x) (i := i) (by omega))
  omega
 ·have hdec : je_.f x = some ([], 0, 25) := by
   unfold je_.f; rw [gm_, ol_ hw (fun c hc => hN ⟨c, hc⟩)]
  rw [hdec]
  simp [pg_ 1200 (by omega)]
end Go.Proofs.Ytpkhgapifnjbeaa.Pure
end
section
namespace Go.Proofs.Ytpkhgapifnjbeaa.rscodeNear
open Go.ChangeShapes Go.WideShapes Go.ChangeAt Go.RowKit
open Go.ChangeMaps (open_string shut_string)
set_option linter.unusedVariables false
theorem own : ownKnob Try.prog.godebug = none := by kernel_rfl
theorem laidOut : laidOutB Try.prog = true := by kernel_rfl
def gk_ (k : IntKind) (w : World) (a : Option Addr) (len cap : Nat) (zs : List Int) : Prop :=
 (a = none ∧ len = 0 ∧ cap = 0 ∧ zs = []) ∨
 ∃ x, a = some x ∧ len ≤ cap ∧ cap ≤ maxLen ∧ zs.length = cap ∧ (∀ i, i < zs.length → w.cell? (x.add i) = some (.int k (zs.getD i 0))) ∧ ∀ n ∈ zs, (Lit.int k n).wf = true
set_option maxRecDepth 100000 in
theorem lifted (os : Os) (started : os.Started) (H : Type) (enc : TypeId × Value → H) :
  ReturnsInHanded {} Try.checked os 10 .any (Rows.rscodeNearSpec.pre6 enc Try.prog Try.f10 Rows.rscodeNearRow.domain false) (Rows.rscodeNearSpec.post enc Try.prog Try.f10 false true false false) := by
 refine returnsInHanded_of_change_sized (C := Try.checked) own started (by kernel_rfl) Try.func10
  (ChangeSpec.witness6 (enc := enc) (C := Try.checked) false ⟨#[], #[.slice none 0 0], []⟩ 8 (by kernel_rfl) (by kernel_rfl) (by kernel_rfl) (by kernel_rfl)) ?_
 intro W base args ds gs before hval0 hW hcnd hsz0 _
 have hsz : (DataW.weightsEach Try.prog (Try.f10.params.toList ++ Rows.rscodeNearSpec.plain.varTypes Try.prog) (ds ++ gs)).all (· ≤ reachBytes) = true := hsz0
 have hval : ∀ (j : Nat) t v, Try.f10.params[j]? = some t → args[j]? = some v → Value.okWide Try.prog W .any base t v := hval0
 have hW' := hW
 obtain ⟨p, q, hA0, hV, rfl, hfz, hnd⟩ := hW
 have hA : DataW.TrodAll enc Try.prog W 0 (fun _ => true) true Try.f10.params.toList args.toList ds p := hA0
 rw [Try.params10] at hA hval hsz
 obtain ⟨v0, vs0, d0, ds0, p0, q0, hargs, rfl, rfl, h0, r0⟩ := trodAll_cons hA
 obtain ⟨rfl, rfl, rfl⟩ := trodAll_nil r0
 obtain rfl : args = #[v0] := by cases args; simp_all
 obtain ⟨rfl, rfl⟩ := trodVars_none hV
 obtain ⟨a0, len0, cap0, rfl⟩ := okWide_slice Try.underlying27 (hval 0 27 v0 rfl rfl)
 have k0 := h0
 have lt0 : ∀ x ∈ p0, x.block < W.heap.size := by obtain ⟨m, hm⟩ := k0; exact DataW.trod_lt m _ _ _ hm
 obtain ⟨z0, w0⟩ : ∃ zs, gk_ .i64 W a0 len0 cap0 zs := by
  obtain ⟨fuel, hf⟩ := h0
  rcases open_ints Try.underlying27 Try.underlying3 (by kernel_rfl) hf with ⟨hcs, _⟩ | ⟨x, l, c, zs, hcs, _, hl, hm, hz, _, hcell, hwz⟩
  ·simp [Value.cells] at hcs
   obtain ⟨rfl, rfl, rfl⟩ := hcs
   exact ⟨[], .inl ⟨rfl, rfl, rfl, rfl⟩⟩
  ·simp [Value.cells] at hcs
   obtain ⟨rfl, rfl, rfl⟩ := hcs
   exact ⟨zs, .inr ⟨_, rfl, hl, hm, by simpa using hz, hcell, hwz⟩⟩
 have y0 : len0 * 8 ≤ 140737488351232 := Go.Proofs.YtpkhgapifnjbeaaW.PrintWords.dg_ hsz (j := 0) (t := 27) rfl rfl Try.underlying27 Try.underlying3 (by kernel_rfl) (by kernel_rfl) h0
 clear hA0 hval0 hsz0 hsz
 refine (Y.za_.walk Pure.qw_ a0 len0 cap0 z0 W w0 y0).mono fun e W' ⟨he, bel⟩ => ?_
 subst he
 exact ⟨_, rfl, _, _, _, [], _, [], hW', trodAll_mk1 (shut_bool Try.underlying4 _), (trodAll_cons_mk (Below.trod laidOut (by kernel_rfl) (of_decide_eq_true (by kernel_rfl)) k0 bel lt0) trodAll_mk0), rfl, bel.frame _, fun h => by cases h⟩
theorem over : Rows.rscodeNearRow.holds Try.pinned (OpenSpec.ofChange Rows.rscodeNearSpec) :=
 OpenClaim.holds_of_wide 10 Try.f10 rfl rfl rfl rfl rfl rfl rfl ⟨rfl, rfl, rfl, rfl, rfl⟩ rfl rfl rfl rfl rfl (by kernel_rfl) Try.func10 (by kernel_rfl)
  (of_decide_eq_true (by kernel_rfl)) (by unfold Func.isWrapper; first | (rw [if_pos (by decide +kernel)]; kernel_rfl) | (rw [if_neg (by decide +kernel)]; exact ⟨rfl, rfl⟩))
  (fun os started H enc _ => lifted os started H enc)
theorem proved : Rows.RscodeNearSaid := over
end Go.Proofs.Ytpkhgapifnjbeaa.rscodeNear
namespace Go.Proofs.Ytpkhgapifnjbeaa
theorem rscodeNear_holds : Rows.RscodeNearSaid := rscodeNear.proved
end Go.Proofs.Ytpkhgapifnjbeaa
end
