/- A part of the proofs of this seat's statements (texts put together by pack2.py of this claim's repo). -/
import Derived.Test.YtpkhgapifnjbeaaProg
import Derived.Below
import Derived.Deep.Draws
import Derived.Deep.AppendLies
import Derived.Maps.AppendAt
import Derived.OwnWalk
import Derived.Laws.BytesArg
import Derived.Laws.MakeOwn
import Derived.Laws.OwnMore
import Derived.Deep.OwnRows
import Derived.Tactics
import Derived.Lib.ConvBytes
import Derived.Laws.Slices
import Derived.WalkKit
import Derived.KernelRfl
import Derived.RowKit3
import Derived.Deep.LoopGhost
import Derived.Deep.QuietTactic
import Derived.BigQuiet
import Derived.WideLaws
import Derived.Deep.DeepCutAuto
import Derived.Deep.CutBlock
import Derived.Deep.RegionHeld3
import Derived.Laws.Rows
import Derived.Lib.AppendStr
import Derived.ArgAppend
import Derived.Laws.IdiomCopy
import Derived.OrdersHeld
import Derived.Laws.BitsLemmas
import Derived.RowKit
import Derived.Test.YtpkhgapifnjbeaaRows
import Derived.ProofKit
import Derived.OpenShut
import Derived.ShutString
import Derived.ChangeOld
import Derived.SizedLaws
import Derived.Test.YtpkhgapifnjbeaaMB6
section
namespace Go.Proofs.Ytpkhgapifnjbeaa.Y
open Go.RowKit Go.Proofs.Ytpkhgapifnjbeaa.G Go.Proofs.Ytpkhgapifnjbeaa.Rs Go.Proofs.YtpkhgapifnjbeaaW.PrintWords Go.Proofs.YtpkhgapifnjbeaaW.PrintLast Go.Proofs.YtpkhgapifnjbeaaW.PrintMore
attribute [local go_sem] dd_ fd_ rd_ sd_ uc_ vc_ ed_ gd_
set_option linter.unusedVariables false
set_option linter.unusedSimpArgs false
def errW : Option Int → Value
 | none => .nilIface
 | some c => .iface 0 (.int .i64 c)
theorem bb_ : errW none = .nilIface := rfl
theorem cb_ (c : Int) : errW (some c) = .iface 0 (.int .i64 c) := rfl
theorem te_ : (Try.prog.info? 3).map (fun i => (i.zero, i.size, i.bytes)) = some (some (.int .i64 0), 1, 8) := by kernel_rfl
def re_ (xs : List (List Int)) (i : Int) : (List Int) := xs.getD i.toNat ([] : List Int)
theorem yk_ {w : World} {A : Option Addr} {n : Nat} {xs : List (List Int)} (h : Kd.C (Kd.slice 3 (Kd.int .i64)) w A n xs) (i : Int) (h0 : 0 ≤ i) (h1 : i < n) : ∃ ad A0 c0, A = some ad ∧ w.cell? (ad.add i.toNat) = some (.slice A0 (re_ xs i).length c0) ∧ (re_ xs i).length ≤ c0 ∧ (Kd.int .i64).C w A0 (re_ xs i).length (re_ xs i) := by
 obtain ⟨ad, c, e, _, hK, hc0⟩ := Kd.ai_ h ([] : List Int) i h0 h1
 have hc : ∀ j u, c[j]? = some u → w.cell? (ad.add (i.toNat * 1 + j)) = some u := hc0
 obtain ⟨A0, c0, rfl, l0, g0⟩ := hK
 exact ⟨ad, A0, c0, e, by have hq := hc 0 _ rfl; rwa [Nat.mul_one, Nat.add_zero] at hq, l0, g0⟩
end Go.Proofs.Ytpkhgapifnjbeaa.Y
end
section
namespace Go.Proofs.Ytpkhgapifnjbeaa.Y
open Go.RowKit Go.Proofs.Ytpkhgapifnjbeaa.G Go.Proofs.Ytpkhgapifnjbeaa.Rs Go.Proofs.YtpkhgapifnjbeaaW.PrintWords Go.Proofs.YtpkhgapifnjbeaaW.PrintLast Go.Proofs.YtpkhgapifnjbeaaW.PrintMore
attribute [local go_sem] dd_ fd_ rd_ sd_ uc_ vc_ ed_ gd_
set_option linter.unusedVariables false
set_option linter.unusedSimpArgs false
def aa_.l0 : Nat → List Int → List Int → Int → Option (Bool)
 | 0, _, _, _ => none
 | k + 1, x0, x1, x5 => if x5 < (x0.length : Int) then (if 0 ≤ x5 then (if x5 < (x1.length : Int) then (if (rd x0 x5) = (rd x1 x5) then (aa_.l0 k x0 x1 (wrap64 (x5 + 1))) else (some false)) else (none)) else (none)) else (some true)
def aa_.f (k : Nat) (l0 : List Int) (l1 : List Int) : Option (Bool) := if (l0.length : Int) = (l1.length : Int) then (aa_.l0 k l0 l1 0) else (some false)
theorem aa_.xc_ : ∀ k, (∀ y0 y1 y2, LeO (aa_.l0 k y0 y1 y2) (aa_.l0 (k + 1) y0 y1 y2))
 | 0 => fun _ _ _ r h => by simp [aa_.l0] at h
 | k + 1 => by
  have ih0 := aa_.xc_ k
  ·intro y0 y1 y2
   unfold aa_.l0
   repeat' first
   | (with_reducible exact ih0 _ _ _)
   | (with_reducible exact LeO.refl _)
   | (with_reducible exact LeO.none _)
   | (with_reducible refine LeO.ite ?_ ?_)
   | (with_reducible refine LeO.bind ?_ (fun _ => ?_))
   | exact ih0 _ _ _
   | exact LeO.none _
   | refine LeO.ite ?_ ?_
   | refine LeO.bind ?_ (fun _ => ?_)
theorem aa_.mono : ∀ a0 a1 k, LeO (aa_.f k a0 a1) (aa_.f (k + 1) a0 a1) := by
 intro a0 a1 k
 have ih0 := aa_.xc_ k
 unfold aa_.f
 repeat' first
   | (with_reducible exact ih0 _ _ _)
   | (with_reducible exact LeO.refl _)
   | (with_reducible exact LeO.none _)
   | (with_reducible refine LeO.ite ?_ ?_)
   | (with_reducible refine LeO.bind ?_ (fun _ => ?_))
   | exact ih0 _ _ _
   | exact LeO.none _
   | refine LeO.ite ?_ ?_
   | refine LeO.bind ?_ (fun _ => ?_)
set_option maxHeartbeats 8000000 in
set_option maxRecDepth 100000 in
theorem aa_.calls (k : Nat) (A0 : Option Addr) (c0 : Nat) (l0 : List Int) (A1 : Option Addr) (c1 : Nat) (l1 : List Int) (r : Bool) (w : World) (hr0 : Kd.C (Kd.int .i64) w A0 l0.length l0) (hc0 : l0.length ≤ c0) (hr1 : Kd.C (Kd.int .i64) w A1 l1.length l1) (hc1 : l1.length ≤ c1) (h : aa_.f k l0 l1 = some r) :
  Calls Try.prog 29 #[.slice A0 l0.length c0, .slice A1 l1.length c1] w fun e w' => e = .returned (.bool r) ∧ ra_ w w' := by
 have HR0 := ba_.mk hr0
 have HC0 := ba_.mk hc0
 clear hr0 hc0
 have HR1 := ba_.mk hr1
 have HC1 := ba_.mk hc1
 clear hr1 hc1
 have H : (if (l0.length : Int) = (l1.length : Int) then (aa_.l0 k l0 l1 0) else (some false)) = some r := h
 clear h
 by_cases c3 : (l0.length : Int) = (l1.length : Int)
 ·rw [if_pos c3] at H
  have c3b0 : ((l0.length : Int) == (l1.length : Int)) = true := beq_iff_eq.mpr c3
  try have c3b9 := eq_true (beq_iff_eq.mp c3b0)
  have c3b1 : ((l0.length : Int) != (l1.length : Int)) = false := bne_eq_false_iff_eq.mpr c3
  have c3b2 : (l0.length == l1.length) = true := by first | simpa using c3 | (simp at c3 ⊢; omega)
  clear c3
  have H' := ba_.mk H
  clear H
  go_enter Try.func29, Try.ntmps29
  go_wp2
  repeat (go_quiet (fail); try go_wp2)
  go_loopg [5] k (fun kq v5 w' => ∃ (x5_1 : Int), v5 = .int .i64 x5_1 ∧ ba_ (aa_.l0 kq l0 l1 x5_1 = some r) ∧ ba_ (kq ≤ k) ∧ ra_ w w')
  case atStart => exact ⟨(0), (by first | rfl | (simp; done) | (simp [*]; done)), H', ⟨Nat.le_refl _⟩, by repeat (first | exact ra_.refl _ | apply ra_.step)⟩
  case round =>
   clear H'
   try clear c1
   try clear c2
   try clear p2
   try clear c3
   try clear c3b0
   try clear c3b1
   try clear c3b2
   obtain ⟨x5_1, rfl, HA, HK1, ⟨m1, rfl⟩⟩ := hrel
   cases gk with
   | zero => exact absurd HA.out (by simp [aa_.l0])
   | succ k1 =>
    have H := HA.out
    clear HA
    simp only [aa_.l0] at H
    by_cases c4 : x5_1 < (l0.length : Int)
    ·rw [if_pos c4] at H
     have c4b0 : decide (x5_1 < (l0.length : Int)) = true := decide_eq_true c4
     clear c4
     by_cases c5 : 0 ≤ x5_1
     ·rw [if_pos c5] at H
      have c5b0 : decide (0 ≤ x5_1) = true := decide_eq_true c5
      clear c5
      by_cases c6 : x5_1 < (l1.length : Int)
      ·rw [if_pos c6] at H
       have c6b0 : decide (x5_1 < (l1.length : Int)) = true := decide_eq_true c6
       clear c6
       by_cases c7 : (rd l0 x5_1) = (rd l1 x5_1)
       ·rw [if_pos c7] at H
        have c7b0 : ((rd l0 x5_1) == (rd l1 x5_1)) = true := beq_iff_eq.mpr c7
        try have c7b9 := eq_true (beq_iff_eq.mp c7b0)
        have c7b1 : ((rd l0 x5_1) != (rd l1 x5_1)) = false := bne_eq_false_iff_eq.mpr c7
        clear c7
        have H' := ba_.mk H
        clear H
        have p101 : 0 ≤ (x5_1 : Int) := of_decide_eq_true (by first | (with_reducible assumption) | assumption)
        have q101 : x5_1 < (l0.length : Int) := of_decide_eq_true (by first | (with_reducible assumption) | assumption)
        obtain ⟨ad101, e101, hx101_0⟩ := Kd.nd_ HR0.out x5_1 p101 q101
        cases e101
        replace p101 := eq_true p101
        replace q101 := eq_true q101
        have p102 : 0 ≤ (x5_1 : Int) := of_decide_eq_true (by first | (with_reducible assumption) | assumption)
        have q102 : x5_1 < (l1.length : Int) := of_decide_eq_true (by first | (with_reducible assumption) | assumption)
        obtain ⟨ad102, e102, hx102_0⟩ := Kd.nd_ HR1.out x5_1 p102 q102
        cases e102
        replace p102 := eq_true p102
        replace q102 := eq_true q102
        go_wp2
        repeat (go_quiet (fail); try go_wp2)
        go_roundg k1
        case measure => have := HK1.out; omega
        case rel => exact ⟨(wrap64 (x5_1 + 1)), (by first | rfl | (simp; done) | (simp [*]; done)), H', ⟨by have := HK1.out; omega⟩, by repeat (first | exact ra_.refl _ | apply ra_.step)⟩
       ·rw [if_neg c7] at H
        have c7b0 : ((rd l0 x5_1) == (rd l1 x5_1)) = false := beq_eq_false_iff_ne.mpr c7
        try have c7b9 := eq_false (beq_eq_false_iff_ne.mp c7b0)
        have c7b1 : ((rd l0 x5_1) != (rd l1 x5_1)) = true := bne_iff_ne.mpr c7
        obtain rfl := Option.some.inj H
        have p101 : 0 ≤ (x5_1 : Int) := of_decide_eq_true (by first | (with_reducible assumption) | assumption)
        have q101 : x5_1 < (l0.length : Int) := of_decide_eq_true (by first | (with_reducible assumption) | assumption)
        obtain ⟨ad101, e101, hx101_0⟩ := Kd.nd_ HR0.out x5_1 p101 q101
        cases e101
        replace p101 := eq_true p101
        replace q101 := eq_true q101
        have p102 : 0 ≤ (x5_1 : Int) := of_decide_eq_true (by first | (with_reducible assumption) | assumption)
        have q102 : x5_1 < (l1.length : Int) := of_decide_eq_true (by first | (with_reducible assumption) | assumption)
        obtain ⟨ad102, e102, hx102_0⟩ := Kd.nd_ HR1.out x5_1 p102 q102
        cases e102
        replace p102 := eq_true p102
        replace q102 := eq_true q102
        go_wp2
        repeat (go_quiet (fail); try go_wp2)
        go_ret
        exact ⟨by first | rfl | (simp; done) | (simp [*]; done), by repeat (first | exact ra_.refl _ | apply ra_.step)⟩
      ·rw [if_neg c6] at H
       exact absurd H (by simp)
     ·rw [if_neg c5] at H
      exact absurd H (by simp)
    ·rw [if_neg c4] at H
     have c4b0 : decide (x5_1 < (l0.length : Int)) = false := decide_eq_false c4
     clear c4
     obtain rfl := Option.some.inj H
     go_wp2
     repeat (go_quiet (fail); try go_wp2)
     go_ret
     exact ⟨by first | rfl | (simp; done) | (simp [*]; done), by repeat (first | exact ra_.refl _ | apply ra_.step)⟩
 ·rw [if_neg c3] at H
  have c3b0 : ((l0.length : Int) == (l1.length : Int)) = false := beq_eq_false_iff_ne.mpr c3
  try have c3b9 := eq_false (beq_eq_false_iff_ne.mp c3b0)
  have c3b1 : ((l0.length : Int) != (l1.length : Int)) = true := bne_iff_ne.mpr c3
  have c3b2 : (l0.length == l1.length) = false := by first | simpa using c3 | (simp at c3 ⊢; omega)
  obtain rfl := Option.some.inj H
  go_enter Try.func29, Try.ntmps29
  go_wp2
  repeat (go_quiet (fail); try go_wp2)
  go_ret
  exact ⟨by first | rfl | (simp; done) | (simp [*]; done), by repeat (first | exact ra_.refl _ | apply ra_.step)⟩
def ha_.f (k : Nat)  : Option (Bool) := (ge_.f (([3, 1] : List Int))).bind fun bt106 => ((je_.f bt106.1).bind fun bt110 => ((ud_.f 16 2).bind fun t115 => (if t115 = 5 then ((nc_.f 2).bind fun t116 => (if t116 = 18 then (if bt106.2 = 0 then (if (bt106.1.length : Int) = 8 then ((ee_.f bt106.1).bind fun t117 => (if t117 = true then (if bt110.2.2 = 0 then (if bt110.2.1 = 0 then ((aa_.f k bt110.1 (([3, 1] : List Int))).bind fun t121 => (some t121)) else (some false)) else (some false)) else (some false))) else (some false)) else (some false)) else (some false))) else (some false))))
theorem ha_.mono : ∀ k, LeO (ha_.f k ) (ha_.f (k + 1) ) := by
 intro  k
 unfold ha_.f
 repeat' first
   | (with_reducible exact aa_.mono _ _ _)
   | (with_reducible exact LeO.refl _)
   | (with_reducible exact LeO.none _)
   | (with_reducible refine LeO.ite ?_ ?_)
   | (with_reducible refine LeO.bind ?_ (fun _ => ?_))
   | exact aa_.mono _ _ _
   | exact LeO.none _
   | refine LeO.ite ?_ ?_
   | refine LeO.bind ?_ (fun _ => ?_)
set_option maxHeartbeats 8000000 in
set_option maxRecDepth 100000 in
theorem ha_.calls (k : Nat)  (r : Bool) (w : World) (h : ha_.f k  = some r) (hr_ : r = true) :
  Calls Try.prog 19 #[] w fun e w' => e = .returned (.bool r) ∧ Below w.heap.size w w' := by
 have HRT := ba_.mk hr_
 clear hr_
 have HB := ba_.mk (Below.refl w.heap.size w)
 have H : ((ge_.f (([3, 1] : List Int))).bind fun bt106 => ((je_.f bt106.1).bind fun bt110 => ((ud_.f 16 2).bind fun t115 => (if t115 = 5 then ((nc_.f 2).bind fun t116 => (if t116 = 18 then (if bt106.2 = 0 then (if (bt106.1.length : Int) = 8 then ((ee_.f bt106.1).bind fun t117 => (if t117 = true then (if bt110.2.2 = 0 then (if bt110.2.1 = 0 then ((aa_.f k bt110.1 (([3, 1] : List Int))).bind fun t121 => (some t121)) else (some false)) else (some false)) else (some false))) else (some false)) else (some false)) else (some false))) else (some false))))) = some r := h
 clear h
 obtain ⟨y103, hy103⟩ : ∃ y_ : List Int, y_ = (([3, 1] : List Int)) := ⟨_, rfl⟩
 replace H : ((ge_.f y103).bind fun bt106 => ((je_.f bt106.1).bind fun bt110 => ((ud_.f 16 2).bind fun t115 => (if t115 = 5 then ((nc_.f 2).bind fun t116 => (if t116 = 18 then (if bt106.2 = 0 then (if (bt106.1.length : Int) = 8 then ((ee_.f bt106.1).bind fun t117 => (if t117 = true then (if bt110.2.2 = 0 then (if bt110.2.1 = 0 then ((aa_.f k bt110.1 (([3, 1] : List Int))).bind fun t121 => (some t121)) else (some false)) else (some false)) else (some false))) else (some false)) else (some false)) else (some false))) else (some false))))) = some r := by first | (rw [hy103]; with_reducible exact H) | (have H2_ := (Option.bind_some _ _).symm.trans H; rw [hy103]; with_reducible exact H2_) | (have H2_ := (Option.bind_some _ _).symm.trans H; with_reducible exact H2_) | with_reducible exact H | (rw [hy103]; exact H) | exact H
 have Ny103 := ba_.mk hy103
 clear hy103
 replace H := Option.bind_eq_some_iff.mp H
 obtain ⟨⟨t106, t107⟩, A10, H⟩ := H
 replace H : ((je_.f t106).bind fun bt110 => ((ud_.f 16 2).bind fun t115 => (if t115 = 5 then ((nc_.f 2).bind fun t116 => (if t116 = 18 then (if t107 = 0 then (if (t106.length : Int) = 8 then ((ee_.f t106).bind fun t117 => (if t117 = true then (if bt110.2.2 = 0 then (if bt110.2.1 = 0 then ((aa_.f k bt110.1 (([3, 1] : List Int))).bind fun t121 => (some t121)) else (some false)) else (some false)) else (some false))) else (some false)) else (some false)) else (some false))) else (some false)))) = some r := H
 have A1 := ba_.mk A10
 clear A10
 replace H := Option.bind_eq_some_iff.mp H
 obtain ⟨⟨t110, t111, t112⟩, A20, H⟩ := H
 replace H : ((ud_.f 16 2).bind fun t115 => (if t115 = 5 then ((nc_.f 2).bind fun t116 => (if t116 = 18 then (if t107 = 0 then (if (t106.length : Int) = 8 then ((ee_.f t106).bind fun t117 => (if t117 = true then (if t112 = 0 then (if t111 = 0 then ((aa_.f k t110 (([3, 1] : List Int))).bind fun t121 => (some t121)) else (some false)) else (some false)) else (some false))) else (some false)) else (some false)) else (some false))) else (some false))) = some r := H
 have A2 := ba_.mk A20
 clear A20
 replace H := Option.bind_eq_some_iff.mp H
 obtain ⟨t115, A30, H⟩ := H
 replace H : (if t115 = 5 then ((nc_.f 2).bind fun t116 => (if t116 = 18 then (if t107 = 0 then (if (t106.length : Int) = 8 then ((ee_.f t106).bind fun t117 => (if t117 = true then (if t112 = 0 then (if t111 = 0 then ((aa_.f k t110 (([3, 1] : List Int))).bind fun t121 => (some t121)) else (some false)) else (some false)) else (some false))) else (some false)) else (some false)) else (some false))) else (some false)) = some r := H
 have A3 := ba_.mk A30
 clear A30
 by_cases c4 : t115 = 5
 ·rw [if_pos c4] at H
  have c4b0 : (t115 == 5) = true := beq_iff_eq.mpr c4
  have c4b1 : (t115 != 5) = false := bne_eq_false_iff_eq.mpr c4
  clear c4
  replace H := Option.bind_eq_some_iff.mp H
  obtain ⟨t116, A50, H⟩ := H
  replace H : (if t116 = 18 then (if t107 = 0 then (if (t106.length : Int) = 8 then ((ee_.f t106).bind fun t117 => (if t117 = true then (if t112 = 0 then (if t111 = 0 then ((aa_.f k t110 (([3, 1] : List Int))).bind fun t121 => (some t121)) else (some false)) else (some false)) else (some false))) else (some false)) else (some false)) else (some false)) = some r := H
  have A5 := ba_.mk A50
  clear A50
  by_cases c6 : t116 = 18
  ·rw [if_pos c6] at H
   have c6b0 : (t116 == 18) = true := beq_iff_eq.mpr c6
   have c6b1 : (t116 != 18) = false := bne_eq_false_iff_eq.mpr c6
   clear c6
   by_cases c7 : t107 = 0
   ·rw [if_pos c7] at H
    have c7b0 : (t107 == 0) = true := beq_iff_eq.mpr c7
    have c7b1 : (t107 != 0) = false := bne_eq_false_iff_eq.mpr c7
    clear c7
    by_cases c8 : (t106.length : Int) = 8
    ·rw [if_pos c8] at H
     have c8b0 : ((t106.length : Int) == 8) = true := beq_iff_eq.mpr c8
     try have c8b9 := eq_true (beq_iff_eq.mp c8b0)
     have c8b1 : ((t106.length : Int) != 8) = false := bne_eq_false_iff_eq.mpr c8
     clear c8
     replace H := Option.bind_eq_some_iff.mp H
     obtain ⟨t117, A90, H⟩ := H
     replace H : (if t117 = true then (if t112 = 0 then (if t111 = 0 then ((aa_.f k t110 (([3, 1] : List Int))).bind fun t121 => (some t121)) else (some false)) else (some false)) else (some false)) = some r := H
     have A9 := ba_.mk A90
     clear A90
     by_cases c10 : t117 = true
     ·subst c10
      have H1 : (if t112 = 0 then (if t111 = 0 then ((aa_.f k t110 (([3, 1] : List Int))).bind fun t121 => (some t121)) else (some false)) else (some false)) = some r := by rw [if_pos rfl] at H; exact H
      clear H
      have H := H1
      clear H1
      by_cases c11 : t112 = 0
      ·rw [if_pos c11] at H
       have c11b0 : (t112 == 0) = true := beq_iff_eq.mpr c11
       have c11b1 : (t112 != 0) = false := bne_eq_false_iff_eq.mpr c11
       clear c11
       by_cases c12 : t111 = 0
       ·rw [if_pos c12] at H
        have c12b0 : (t111 == 0) = true := beq_iff_eq.mpr c12
        have c12b1 : (t111 != 0) = false := bne_eq_false_iff_eq.mpr c12
        clear c12
        obtain ⟨y118, hy118⟩ : ∃ y_ : List Int, y_ = (([3, 1] : List Int)) := ⟨_, rfl⟩
        replace H : ((aa_.f k t110 y118).bind fun t121 => (some t121)) = some r := by first | (rw [hy118]; with_reducible exact H) | (have H2_ := (Option.bind_some _ _).symm.trans H; rw [hy118]; with_reducible exact H2_) | (have H2_ := (Option.bind_some _ _).symm.trans H; with_reducible exact H2_) | with_reducible exact H | (rw [hy118]; exact H) | exact H
        have Ny118 := ba_.mk hy118
        clear hy118
        replace H := Option.bind_eq_some_iff.mp H
        obtain ⟨t121, A130, H⟩ := H
        replace H : (some t121) = some r := H
        have A13 := ba_.mk A130
        clear A130
        obtain rfl := Option.some.inj H
        go_enter Try.func19, Try.ntmps19
        go_wp2_with (first | ((with_reducible refine yd_ (N := 7) rfl ?_); (try (refine ce_ (by rfl) ?_; dsimp only)); refine Kd.ri_ (Kd.int .i64) _ 3 ?hg (N := 7) ?hd (xs := ([3, 1] : List Int)) (inner := [.int .i64 3, .int .i64 1]) (ok := fun _ => True) (okp := fun _ => True) ?hr ?hp (fun _ hk => hk) trivial (Below.refl _ _) (Nat.le_refl _) (by simp) ?_; (case hd => rfl); (case hg => rfl); (case hr => first | (go_simp; done) | (go_simp; rfl)); (case hp => exact (Reps.one (show Kd.M (Kd.int .i64) _ _ _ 3 [.int .i64 3] from rfl) (Reps.one (show Kd.M (Kd.int .i64) _ _ _ 1 [.int .i64 1] from rfl) (Reps.none _ _)))); intro v104 w14 ho15 hb hg_ hnew_; clear hg_ hnew_; (first | rw [← Ny103.out] at ho15 | (simp only [Int.reduceToNat] at ho15; rw [← Ny103.out] at ho15)); have n0_ := ba_.mk (Kd.wc_ ho15 (eb_ (by repeat (first | (with_reducible first | exact HB.out | apply fa_ | apply ca_ | apply ga_) | exact HB.out)))); have n1_ := ba_.mk (gb_ (by repeat (first | (with_reducible first | exact HB.out | apply fa_ | apply ca_ | apply ga_) | exact HB.out)) hb); clear HB; have HO105 := n0_; have HB := n1_; clear n0_ n1_; clear hb ho15; obtain ⟨Ao16, co16, eo16⟩ := Kd.fc_ HO105.out; subst eo16) | ((with_reducible refine ua_ (f := 27) rfl ?_); refine hc_ (some 8) rfl rfl Try.func27 (by kernel_rfl) rfl #[.slice Ao16 y103.length co16] rfl (by (try simp only [List.map_toArray, List.map_cons, List.map_nil]); first | done | rfl | (simp only [List.length_drop, List.length_take]; rfl)) ?_; (with_reducible refine (ge_.calls _ _ y103 t106 t107 _ ?side1 ?side2 A1.out).mono ?_); (case side1 => repeat (first | exact (Kd.ta_ HO105.out).2.2 | (with_reducible refine Kd.yb_ ?_ _) | (with_reducible refine Kd.zb_ ?_ _) | (with_reducible refine Kd.jc_ ?_))); (case side2 => exact (Kd.ta_ HO105.out).2.1); rintro e w17 ⟨v108, rfl, ho0, hb⟩; refine ⟨_, rfl, ?_⟩; have n0_ := ba_.mk (Kd.wb_ (by (with_reducible repeat (first | apply Kd.la_ | apply Kd.ka_ | apply Kd.ma_)); exact HO105.out) (Kd.rc_ ho0) hb); have n1_ := ba_.mk (Kd.wc_ (Kd.qc_ ho0 (Kd.R_lt (by (with_reducible repeat (first | apply Kd.la_ | apply Kd.ka_ | apply Kd.ma_)); exact HO105.out))) (eb_ (by repeat (first | (with_reducible first | exact HB.out | apply fa_ | apply ca_ | apply ga_) | exact HB.out)))); have n2_ := ba_.mk (gb_ (by repeat (first | (with_reducible first | exact HB.out | apply fa_ | apply ca_ | apply ga_) | exact HB.out)) hb); clear HO105; clear HB; have HO105 := n0_; have HO109 := n1_; have HB := n2_; clear n0_ n1_ n2_; (try clear hb); (try clear hb2); (try clear hk); (try clear hi); (try clear ho0); obtain ⟨Ao18, co18, eo18⟩ := Kd.fc_ HO109.out; subst eo18) | ((with_reducible refine ua_ (f := 34) rfl ?_); refine hc_ (some 13) rfl rfl Try.func34 (by kernel_rfl) rfl #[.slice Ao18 t106.length co18] rfl (by (try simp only [List.map_toArray, List.map_cons, List.map_nil]); first | done | rfl | (simp only [List.length_drop, List.length_take]; rfl)) ?_; (with_reducible refine (je_.calls _ _ t106 t110 t111 t112 _ ?side1 ?side2 A2.out).mono ?_); (case side1 => repeat (first | exact (Kd.ta_ HO109.out).2.2 | (with_reducible refine Kd.yb_ ?_ _) | (with_reducible refine Kd.zb_ ?_ _) | (with_reducible refine Kd.jc_ ?_))); (case side2 => exact (Kd.ta_ HO109.out).2.1); rintro e w19 ⟨v113, rfl, ho0, hb⟩; refine ⟨_, rfl, ?_⟩; have n0_ := ba_.mk (Kd.wb_ (by (with_reducible repeat (first | apply Kd.la_ | apply Kd.ka_ | apply Kd.ma_)); exact HO105.out) (Kd.rc_ ho0) hb); have n1_ := ba_.mk (Kd.wb_ (by (with_reducible repeat (first | apply Kd.la_ | apply Kd.ka_ | apply Kd.ma_)); exact HO109.out) (Kd.rc_ ho0) hb); have n2_ := ba_.mk (Kd.wc_ (Kd.qc_ (Kd.qc_ ho0 (Kd.R_lt (by (with_reducible repeat (first | apply Kd.la_ | apply Kd.ka_ | apply Kd.ma_)); exact HO105.out))) (Kd.R_lt (by (with_reducible repeat (first | apply Kd.la_ | apply Kd.ka_ | apply Kd.ma_)); exact HO109.out))) (eb_ (by repeat (first | (with_reducible first | exact HB.out | apply fa_ | apply ca_ | apply ga_) | exact HB.out)))); have n3_ := ba_.mk (gb_ (by repeat (first | (with_reducible first | exact HB.out | apply fa_ | apply ca_ | apply ga_) | exact HB.out)) hb); clear HO105; clear HO109; clear HB; have HO105 := n0_; have HO109 := n1_; have HO114 := n2_; have HB := n3_; clear n0_ n1_ n2_ n3_; (try clear hb); (try clear hb2); (try clear hk); (try clear hi); (try clear ho0)) | ((with_reducible refine ua_ (f := 15) rfl ?_); refine hc_ (some 17) rfl rfl Try.func15 (by kernel_rfl) rfl #[.int .i64 16, .int .i64 2] rfl (by (try simp only [List.map_toArray, List.map_cons, List.map_nil]); first | done | rfl | (simp only [List.length_drop, List.length_take]; rfl)) ?_; (with_reducible refine (ud_.calls 16 2 t115 _ A3.out).mono ?_); rintro e w' ⟨rfl, ⟨nd, rfl⟩⟩; refine ⟨_, rfl, ?_⟩) | (go_at_call 17; (with_reducible refine (nc_.calls 2 t116 _ A5.out).mono ?_); rintro e w' ⟨rfl, ⟨nd, rfl⟩⟩) | (go_at_call 32; (with_reducible refine (ee_.calls _ _ t106 true _ ?side1 ?side2 A9.out).mono ?_); (case side1 => repeat (first | exact (Kd.ta_ HO109.out).2.2 | (with_reducible refine Kd.yb_ ?_ _) | (with_reducible refine Kd.zb_ ?_ _) | (with_reducible refine Kd.jc_ ?_))); (case side2 => exact (Kd.ta_ HO109.out).2.1); rintro e w20 ⟨rfl, hb⟩; have n0_ := ba_.mk (Kd.cd_ (by (with_reducible repeat (first | apply Kd.la_ | apply Kd.ka_ | apply Kd.ma_)); exact HO105.out) hb); have n1_ := ba_.mk (Kd.cd_ (by (with_reducible repeat (first | apply Kd.la_ | apply Kd.ka_ | apply Kd.ma_)); exact HO109.out) hb); have n2_ := ba_.mk (Kd.cd_ (by (with_reducible repeat (first | apply Kd.la_ | apply Kd.ka_ | apply Kd.ma_)); exact HO114.out) hb); have n3_ := ba_.mk (gb_ (by repeat (first | (with_reducible first | exact HB.out | apply fa_ | apply ca_ | apply ga_) | exact HB.out)) hb); clear HO105; clear HO109; clear HO114; clear HB; have HO105 := n0_; have HO109 := n1_; have HO114 := n2_; have HB := n3_; clear n0_ n1_ n2_ n3_; (try clear hb); (try clear hb2); (try clear hk); (try clear hi)) | ((with_reducible refine yd_ (N := 46) rfl ?_); (try (refine ce_ (by rfl) ?_; dsimp only)); refine Kd.ri_ (Kd.int .i64) _ 3 ?hg (N := 46) ?hd (xs := ([3, 1] : List Int)) (inner := [.int .i64 3, .int .i64 1]) (ok := fun _ => True) (okp := fun _ => True) ?hr ?hp (fun _ hk => hk) trivial (Below.refl _ _) (Nat.le_refl _) (by simp) ?_; (case hd => rfl); (case hg => rfl); (case hr => first | (go_simp; done) | (go_simp; rfl)); (case hp => exact (Reps.one (show Kd.M (Kd.int .i64) _ _ _ 3 [.int .i64 3] from rfl) (Reps.one (show Kd.M (Kd.int .i64) _ _ _ 1 [.int .i64 1] from rfl) (Reps.none _ _)))); intro v119 w21 ho22 hb hg_ hnew_; clear hg_ hnew_; (first | rw [← Ny118.out] at ho22 | (simp only [Int.reduceToNat] at ho22; rw [← Ny118.out] at ho22)); have n0_ := ba_.mk (Kd.wb_ (by (with_reducible repeat (first | apply Kd.la_ | apply Kd.ka_ | apply Kd.ma_)); exact HO105.out) (Kd.rc_ ho22) hb); have n1_ := ba_.mk (Kd.wb_ (by (with_reducible repeat (first | apply Kd.la_ | apply Kd.ka_ | apply Kd.ma_)); exact HO109.out) (Kd.rc_ ho22) hb); have n2_ := ba_.mk (Kd.wb_ (by (with_reducible repeat (first | apply Kd.la_ | apply Kd.ka_ | apply Kd.ma_)); exact HO114.out) (Kd.rc_ ho22) hb); have n3_ := ba_.mk (Kd.wc_ (Kd.qc_ (Kd.qc_ (Kd.qc_ ho22 (Kd.R_lt (by (with_reducible repeat (first | apply Kd.la_ | apply Kd.ka_ | apply Kd.ma_)); exact HO105.out))) (Kd.R_lt (by (with_reducible repeat (first | apply Kd.la_ | apply Kd.ka_ | apply Kd.ma_)); exact HO109.out))) (Kd.R_lt (by (with_reducible repeat (first | apply Kd.la_ | apply Kd.ka_ | apply Kd.ma_)); exact HO114.out))) (eb_ (by repeat (first | (with_reducible first | exact HB.out | apply fa_ | apply ca_ | apply ga_) | exact HB.out)))); have n4_ := ba_.mk (gb_ (by repeat (first | (with_reducible first | exact HB.out | apply fa_ | apply ca_ | apply ga_) | exact HB.out)) hb); clear HO105; clear HO109; clear HO114; clear HB; have HO105 := n0_; have HO109 := n1_; have HO114 := n2_; have HO120 := n3_; have HB := n4_; clear n0_ n1_ n2_ n3_ n4_; clear hb ho22; obtain ⟨Ao23, co23, eo23⟩ := Kd.fc_ HO114.out; subst eo23; obtain ⟨Ao24, co24, eo24⟩ := Kd.fc_ HO120.out; subst eo24) | (go_at_call 29; (with_reducible refine (aa_.calls k _ _ t110 _ _ y118 t121 _ ?side1 ?side2 ?side3 ?side4 A13.out).mono ?_); (case side1 => repeat (first | exact (Kd.ta_ HO114.out).2.2 | (with_reducible refine Kd.yb_ ?_ _) | (with_reducible refine Kd.zb_ ?_ _) | (with_reducible refine Kd.jc_ ?_))); (case side2 => exact (Kd.ta_ HO114.out).2.1); (case side3 => repeat (first | exact (Kd.ta_ HO120.out).2.2 | (with_reducible refine Kd.yb_ ?_ _) | (with_reducible refine Kd.zb_ ?_ _) | (with_reducible refine Kd.jc_ ?_))); (case side4 => exact (Kd.ta_ HO120.out).2.1); rintro e w' ⟨rfl, ⟨nd, rfl⟩⟩))
        go_ret
        exact ⟨by first | rfl | (simp [bb_, cb_] <;> rfl) | (simp [*, bb_, cb_] <;> rfl), by repeat (first | (with_reducible first | exact HB.out | apply fa_ | apply ca_ | apply ga_) | exact HB.out)⟩
       ·rw [if_neg c12] at H
        have c12b0 : (t111 == 0) = false := beq_eq_false_iff_ne.mpr c12
        have c12b1 : (t111 != 0) = true := bne_iff_ne.mpr c12
        exact absurd ((Option.some.inj H).trans HRT.out) (by decide)
      ·rw [if_neg c11] at H
       have c11b0 : (t112 == 0) = false := beq_eq_false_iff_ne.mpr c11
       have c11b1 : (t112 != 0) = true := bne_iff_ne.mpr c11
       exact absurd ((Option.some.inj H).trans HRT.out) (by decide)
     ·replace c10 := Bool.eq_false_iff.mpr c10
      subst c10
      have H1 : (some false) = some r := by rw [if_neg (show ¬ (false = true) by decide)] at H; exact H
      clear H
      have H := H1
      clear H1
      exact absurd ((Option.some.inj H).trans HRT.out) (by decide)
    ·rw [if_neg c8] at H
     have c8b0 : ((t106.length : Int) == 8) = false := beq_eq_false_iff_ne.mpr c8
     try have c8b9 := eq_false (beq_eq_false_iff_ne.mp c8b0)
     have c8b1 : ((t106.length : Int) != 8) = true := bne_iff_ne.mpr c8
     exact absurd ((Option.some.inj H).trans HRT.out) (by decide)
   ·rw [if_neg c7] at H
    have c7b0 : (t107 == 0) = false := beq_eq_false_iff_ne.mpr c7
    have c7b1 : (t107 != 0) = true := bne_iff_ne.mpr c7
    exact absurd ((Option.some.inj H).trans HRT.out) (by decide)
  ·rw [if_neg c6] at H
   have c6b0 : (t116 == 18) = false := beq_eq_false_iff_ne.mpr c6
   have c6b1 : (t116 != 18) = true := bne_iff_ne.mpr c6
   exact absurd ((Option.some.inj H).trans HRT.out) (by decide)
 ·rw [if_neg c4] at H
  have c4b0 : (t115 == 5) = false := beq_eq_false_iff_ne.mpr c4
  have c4b1 : (t115 != 5) = true := bne_iff_ne.mpr c4
  exact absurd ((Option.some.inj H).trans HRT.out) (by decide)
end Go.Proofs.Ytpkhgapifnjbeaa.Y
end
section
namespace Go.Proofs.Ytpkhgapifnjbeaa.Y
open Go.RowKit Go.Proofs.Ytpkhgapifnjbeaa.G Go.Proofs.Ytpkhgapifnjbeaa.Rs Go.Proofs.YtpkhgapifnjbeaaW.PrintWords Go.Proofs.YtpkhgapifnjbeaaW.PrintLast Go.Proofs.YtpkhgapifnjbeaaW.PrintMore
attribute [local go_sem] dd_ fd_ rd_ sd_ uc_ vc_ ed_ gd_
set_option linter.unusedVariables false
set_option linter.unusedSimpArgs false
def ia_ (w0 W : World) (g : Nat) (f0 : List Int) (f1 : Int) : Prop := ∃ A0 c0, W.heap[g]? = some (.cells #[.slice A0 f0.length c0, .int .i64 f1] 48 (0, 0)) ∧ w0.heap.size ≤ g ∧ Kd.C (Kd.int .i64) w0 A0 f0.length f0
theorem ia_.grown {w0 W : World} {g : Nat} {f0 : List Int} {f1 : Int} {W1 : World} {row : Option Nat} (h : ia_ w0 W g f0 f1) (hw : W.grownBy W1 row) (hne : some g ≠ row) : ia_ w0 W1 g f0 f1 := by
 obtain ⟨A0, c0, hb, hg, hr0⟩ := h
 exact ⟨A0, c0, bi_ hb hw hne, hg, hr0⟩
theorem ia_.kept {w0 W : World} {g : Nat} {f0 : List Int} {f1 : Int} {W1 : World} {S : Nat → Prop} (h : ia_ w0 W g f0 f1) (hk : Kept W W1 S) (hne : ¬ S g) : ia_ w0 W1 g f0 f1 := by
 obtain ⟨A0, c0, hb, hg, hr0⟩ := h
 exact ⟨A0, c0, zi_ hb hk hne, hg, hr0⟩
theorem ia_.below {w0 W : World} {g : Nat} {f0 : List Int} {f1 : Int} {W1 : World} (h : ia_ w0 W g f0 f1) (hw : Below W.heap.size W W1) : ia_ w0 W1 g f0 f1 := h.grown (ef_ hw none) (by simp)
theorem ia_.alloc {w0 W : World} {g : Nat} {f0 : List Int} {f1 : Int} (h : ia_ w0 W g f0 f1) (o : Obj) : ia_ w0 (W.alloc o) g f0 f1 := h.below (fa_ (Below.refl _ _) o)
theorem ia_.drewN {w0 W : World} {g : Nat} {f0 : List Int} {f1 : Int} (h : ia_ w0 W g f0 f1) (m : Nat) : ia_ w0 (W.drewN m) g f0 f1 := h
theorem ia_.drew {w0 W : World} {g : Nat} {f0 : List Int} {f1 : Int} (h : ia_ w0 W g f0 f1) : ia_ w0 W.drew g f0 f1 := h
theorem ia_.at_ {w0 W : World} {g : Nat} {f0 : List Int} {f1 : Int} {w' : World} {m : Nat} (hq : W.drewN m = w') (h : ia_ w0 W g f0 f1) : ia_ w0 w' g f0 f1 := by subst hq; exact ia_.drewN h m
theorem ia_.apart {w0 W : World} {g : Nat} {f0 : List Int} {f1 : Int} {α : Type} {d : Kd α} {e : Nat} {base : Nat} {ok : Nat → Prop} {v : Value} {xs : List α} (h : ia_ w0 W g f0 f1) (ho : d.R e W base ok v xs) (ht : ∀ q, q ∈ e :: d.E → q ≠ 48) : d.R e W base (fun k => ok k ∧ k ≠ g) v xs := by
 obtain ⟨A0, c0, hb, hg, hr0⟩ := h
 exact Kd.gj_ ho hb ht
theorem ia_.fe_ {w0 W : World} {g : Nat} {f0 : List Int} {f1 : Int} {α : Type} {d : Kd α} {e : Nat} {base : Nat} {ok : Nat → Prop} {v : Value} {xs : List α} (h : ia_ w0 W g f0 f1) (ho : d.R e W base ok v xs) (ht : e ≠ 48) : some g ≠ v.ownBlock := by
 obtain ⟨A0, c0, hb, hg, hr0⟩ := h
 exact Kd.R_ne ho hb ht
theorem ia_.lt {w0 W : World} {g : Nat} {f0 : List Int} {f1 : Int} (h : ia_ w0 W g f0 f1) : g < W.heap.size := by
 obtain ⟨A0, c0, hb, hg, hr0⟩ := h
 exact qj_ hb
end Go.Proofs.Ytpkhgapifnjbeaa.Y
end
section
namespace Go.Proofs.Ytpkhgapifnjbeaa.Y
open Go.RowKit Go.Proofs.Ytpkhgapifnjbeaa.G Go.Proofs.Ytpkhgapifnjbeaa.Rs Go.Proofs.YtpkhgapifnjbeaaW.PrintWords Go.Proofs.YtpkhgapifnjbeaaW.PrintLast Go.Proofs.YtpkhgapifnjbeaaW.PrintMore
attribute [local go_sem] dd_ fd_ rd_ sd_ uc_ vc_ ed_ gd_
set_option linter.unusedVariables false
set_option linter.unusedSimpArgs false
def tb_.l0 : Nat → List Int → List Int → Int → Int → Int → Option (Int)
 | 0, _, _, _, _, _ => none
 | k + 1, x0, x1, x5, x13, x14 => if x14 < x13 then (if 0 ≤ x14 then (if x14 < (x0.length : Int) then (if x14 < (x1.length : Int) then (if (rd x0 x14) = (rd x1 x14) then (tb_.l0 k x0 x1 x5 x13 (wrap64 (x14 + 1))) else (tb_.l0 k x0 x1 (wrap64 (x5 + 1)) x13 (wrap64 (x14 + 1)))) else (none)) else (none)) else (none)) else (some x5)
def tb_.f (k : Nat) (l0 : List Int) (l1 : List Int) : Option (Int) := if (l0.length : Int) = (l1.length : Int) then (tb_.l0 k l0 l1 0 (l0.length : Int) 0) else (some (-1))
theorem tb_.xc_ : ∀ k, (∀ y0 y1 y2 y3 y4, LeO (tb_.l0 k y0 y1 y2 y3 y4) (tb_.l0 (k + 1) y0 y1 y2 y3 y4))
 | 0 => fun _ _ _ _ _ r h => by simp [tb_.l0] at h
 | k + 1 => by
  have ih0 := tb_.xc_ k
  ·intro y0 y1 y2 y3 y4
   unfold tb_.l0
   repeat' first
   | (with_reducible exact ih0 _ _ _ _ _)
   | (with_reducible exact LeO.refl _)
   | (with_reducible exact LeO.none _)
   | (with_reducible refine LeO.ite ?_ ?_)
   | (with_reducible refine LeO.bind ?_ (fun _ => ?_))
   | exact ih0 _ _ _ _ _
   | exact LeO.none _
   | refine LeO.ite ?_ ?_
   | refine LeO.bind ?_ (fun _ => ?_)
theorem tb_.mono : ∀ a0 a1 k, LeO (tb_.f k a0 a1) (tb_.f (k + 1) a0 a1) := by
 intro a0 a1 k
 have ih0 := tb_.xc_ k
 unfold tb_.f
 repeat' first
   | (with_reducible exact ih0 _ _ _ _ _)
   | (with_reducible exact LeO.refl _)
   | (with_reducible exact LeO.none _)
   | (with_reducible refine LeO.ite ?_ ?_)
   | (with_reducible refine LeO.bind ?_ (fun _ => ?_))
   | exact ih0 _ _ _ _ _
   | exact LeO.none _
   | refine LeO.ite ?_ ?_
   | refine LeO.bind ?_ (fun _ => ?_)
set_option maxHeartbeats 8000000 in
set_option maxRecDepth 100000 in
theorem tb_.calls (k : Nat) (A0 : Option Addr) (c0 : Nat) (l0 : List Int) (A1 : Option Addr) (c1 : Nat) (l1 : List Int) (r : Int) (w : World) (hr0 : Kd.C (Kd.int .i64) w A0 l0.length l0) (hc0 : l0.length ≤ c0) (hr1 : Kd.C (Kd.int .i64) w A1 l1.length l1) (hc1 : l1.length ≤ c1) (h : tb_.f k l0 l1 = some r) :
  Calls Try.prog 36 #[.slice A0 l0.length c0, .slice A1 l1.length c1] w fun e w' => e = .returned (.int .i64 r) ∧ ra_ w w' := by
 have HR0 := ba_.mk hr0
 have HC0 := ba_.mk hc0
 clear hr0 hc0
 have HR1 := ba_.mk hr1
 have HC1 := ba_.mk hc1
 clear hr1 hc1
 have H : (if (l0.length : Int) = (l1.length : Int) then (tb_.l0 k l0 l1 0 (l0.length : Int) 0) else (some (-1))) = some r := h
 clear h
 by_cases c3 : (l0.length : Int) = (l1.length : Int)
 ·rw [if_pos c3] at H
  have c3b0 : ((l0.length : Int) == (l1.length : Int)) = true := beq_iff_eq.mpr c3
  try have c3b9 := eq_true (beq_iff_eq.mp c3b0)
  have c3b1 : ((l0.length : Int) != (l1.length : Int)) = false := bne_eq_false_iff_eq.mpr c3
  have c3b2 : (l0.length == l1.length) = true := by first | simpa using c3 | (simp at c3 ⊢; omega)
  clear c3
  have H' := ba_.mk H
  clear H
  go_enter Try.func36, Try.ntmps36
  go_wp2
  repeat (go_quiet (fail); try go_wp2)
  go_loopg [5, 14] k (fun kq v5 v14 w' => ∃ (x5_1 : Int) (x14_1 : Int), v5 = .int .i64 x5_1 ∧ v14 = .int .i64 x14_1 ∧ ba_ (tb_.l0 kq l0 l1 x5_1 (l0.length : Int) x14_1 = some r) ∧ ba_ (kq ≤ k) ∧ ra_ w w')
  case atStart => exact ⟨(0), (0), (by first | rfl | (simp; done) | (simp [*]; done)), (by first | rfl | (simp; done) | (simp [*]; done)), H', ⟨Nat.le_refl _⟩, by repeat (first | exact ra_.refl _ | apply ra_.step)⟩
  case round =>
   clear H'
   try clear c1
   try clear p2
   try clear c3
   try clear c3b0
   try clear c3b1
   try clear c3b2
   obtain ⟨x5_1, x14_1, rfl, rfl, HA, HK1, ⟨m1, rfl⟩⟩ := hrel
   cases gk with
   | zero => exact absurd HA.out (by simp [tb_.l0])
   | succ k1 =>
    have H := HA.out
    clear HA
    simp only [tb_.l0] at H
    by_cases c4 : x14_1 < (l0.length : Int)
    ·rw [if_pos c4] at H
     have c4b0 : decide (x14_1 < (l0.length : Int)) = true := decide_eq_true c4
     clear c4
     by_cases c5 : 0 ≤ x14_1
     ·rw [if_pos c5] at H
      have c5b0 : decide (0 ≤ x14_1) = true := decide_eq_true c5
      clear c5
      by_cases c6 : x14_1 < (l0.length : Int)
      ·rw [if_pos c6] at H
       have c6b0 : decide (x14_1 < (l0.length : Int)) = true := decide_eq_true c6
       clear c6
       by_cases c7 : x14_1 < (l1.length : Int)
       ·rw [if_pos c7] at H
        have c7b0 : decide (x14_1 < (l1.length : Int)) = true := decide_eq_true c7
        clear c7
        by_cases c8 : (rd l0 x14_1) = (rd l1 x14_1)
        ·rw [if_pos c8] at H
         have c8b0 : ((rd l0 x14_1) == (rd l1 x14_1)) = true := beq_iff_eq.mpr c8
         try have c8b9 := eq_true (beq_iff_eq.mp c8b0)
         have c8b1 : ((rd l0 x14_1) != (rd l1 x14_1)) = false := bne_eq_false_iff_eq.mpr c8
         clear c8
         have H' := ba_.mk H
         clear H
         have p369 : 0 ≤ (x14_1 : Int) := of_decide_eq_true (by first | (with_reducible assumption) | assumption)
         have q369 : x14_1 < (l0.length : Int) := of_decide_eq_true (by first | (with_reducible assumption) | assumption)
         obtain ⟨ad369, e369, hx369_0⟩ := Kd.nd_ HR0.out x14_1 p369 q369
         cases e369
         replace p369 := eq_true p369
         replace q369 := eq_true q369
         have p370 : 0 ≤ (x14_1 : Int) := of_decide_eq_true (by first | (with_reducible assumption) | assumption)
         have q370 : x14_1 < (l1.length : Int) := of_decide_eq_true (by first | (with_reducible assumption) | assumption)
         obtain ⟨ad370, e370, hx370_0⟩ := Kd.nd_ HR1.out x14_1 p370 q370
         cases e370
         replace p370 := eq_true p370
         replace q370 := eq_true q370
         go_wp2
         repeat (go_quiet (fail); try go_wp2)
         go_roundg k1
         case measure => have := HK1.out; omega
         case rel => exact ⟨(x5_1), (wrap64 (x14_1 + 1)), (by first | rfl | (simp; done) | (simp [*]; done)), (by first | rfl | (simp; done) | (simp [*]; done)), H', ⟨by have := HK1.out; omega⟩, by repeat (first | exact ra_.refl _ | apply ra_.step)⟩
        ·rw [if_neg c8] at H
         have c8b0 : ((rd l0 x14_1) == (rd l1 x14_1)) = false := beq_eq_false_iff_ne.mpr c8
         try have c8b9 := eq_false (beq_eq_false_iff_ne.mp c8b0)
         have c8b1 : ((rd l0 x14_1) != (rd l1 x14_1)) = true := bne_iff_ne.mpr c8
         have H' := ba_.mk H
         clear H
         have p369 : 0 ≤ (x14_1 : Int) := of_decide_eq_true (by first | (with_reducible assumption) | assumption)
         have q369 : x14_1 < (l0.length : Int) := of_decide_eq_true (by first | (with_reducible assumption) | assumption)
         obtain ⟨ad369, e369, hx369_0⟩ := Kd.nd_ HR0.out x14_1 p369 q369
         cases e369
         replace p369 := eq_true p369
         replace q369 := eq_true q369
         have p370 : 0 ≤ (x14_1 : Int) := of_decide_eq_true (by first | (with_reducible assumption) | assumption)
         have q370 : x14_1 < (l1.length : Int) := of_decide_eq_true (by first | (with_reducible assumption) | assumption)
         obtain ⟨ad370, e370, hx370_0⟩ := Kd.nd_ HR1.out x14_1 p370 q370
         cases e370
         replace p370 := eq_true p370
         replace q370 := eq_true q370
         go_wp2
         repeat (go_quiet (fail); try go_wp2)
         go_roundg k1
         case measure => have := HK1.out; omega
         case rel => exact ⟨(wrap64 (x5_1 + 1)), (wrap64 (x14_1 + 1)), (by first | rfl | (simp; done) | (simp [*]; done)), (by first | rfl | (simp; done) | (simp [*]; done)), H', ⟨by have := HK1.out; omega⟩, by repeat (first | exact ra_.refl _ | apply ra_.step)⟩
       ·rw [if_neg c7] at H
        exact absurd H (by simp)
      ·rw [if_neg c6] at H
       exact absurd H (by simp)
     ·rw [if_neg c5] at H
      exact absurd H (by simp)
    ·rw [if_neg c4] at H
     have c4b0 : decide (x14_1 < (l0.length : Int)) = false := decide_eq_false c4
     clear c4
     obtain rfl := Option.some.inj H
     go_wp2
     repeat (go_quiet (fail); try go_wp2)
     go_ret
     exact ⟨by first | rfl | (simp; done) | (simp [*]; done), by repeat (first | exact ra_.refl _ | apply ra_.step)⟩
 ·rw [if_neg c3] at H
  have c3b0 : ((l0.length : Int) == (l1.length : Int)) = false := beq_eq_false_iff_ne.mpr c3
  try have c3b9 := eq_false (beq_eq_false_iff_ne.mp c3b0)
  have c3b1 : ((l0.length : Int) != (l1.length : Int)) = true := bne_iff_ne.mpr c3
  have c3b2 : (l0.length == l1.length) = false := by first | simpa using c3 | (simp at c3 ⊢; omega)
  obtain rfl := Option.some.inj H
  go_enter Try.func36, Try.ntmps36
  go_wp2
  repeat (go_quiet (fail); try go_wp2)
  go_ret
  exact ⟨by first | rfl | (simp; done) | (simp [*]; done), by repeat (first | exact ra_.refl _ | apply ra_.step)⟩
end Go.Proofs.Ytpkhgapifnjbeaa.Y
end
section
namespace Go.Proofs.Ytpkhgapifnjbeaa.Y
open Go.RowKit Go.Proofs.Ytpkhgapifnjbeaa.G Go.Proofs.Ytpkhgapifnjbeaa.Rs Go.Proofs.YtpkhgapifnjbeaaW.PrintWords Go.Proofs.YtpkhgapifnjbeaaW.PrintLast Go.Proofs.YtpkhgapifnjbeaaW.PrintMore
attribute [local go_sem] dd_ fd_ rd_ sd_ uc_ vc_ ed_ gd_
set_option linter.unusedVariables false
set_option linter.unusedSimpArgs false
def ub_.l0 : Nat → List Int → List Int → Int → Int → Option (Int)
 | 0, _, _, _, _ => none
 | k + 1, x0, x1, x5, x6 => if x6 < (x0.length : Int) then (if 0 ≤ x6 then (if x6 < (x1.length : Int) then (if (rd x0 x6) = (rd x1 x6) then (ub_.l0 k x0 x1 x5 (wrap64 (x6 + 1))) else (ub_.l0 k x0 x1 (wrap64 (x5 + 1)) (wrap64 (x6 + 1)))) else (none)) else (none)) else (some x5)
def ub_.f (k : Nat) (l0 : List Int) (l1 : List Int) : Option (Int) := if (l0.length : Int) = (l1.length : Int) then (ub_.l0 k l0 l1 0 0) else (some (-1))
theorem ub_.xc_ : ∀ k, (∀ y0 y1 y2 y3, LeO (ub_.l0 k y0 y1 y2 y3) (ub_.l0 (k + 1) y0 y1 y2 y3))
 | 0 => fun _ _ _ _ r h => by simp [ub_.l0] at h
 | k + 1 => by
  have ih0 := ub_.xc_ k
  ·intro y0 y1 y2 y3
   unfold ub_.l0
   repeat' first
   | (with_reducible exact ih0 _ _ _ _)
   | (with_reducible exact LeO.refl _)
   | (with_reducible exact LeO.none _)
   | (with_reducible refine LeO.ite ?_ ?_)
   | (with_reducible refine LeO.bind ?_ (fun _ => ?_))
   | exact ih0 _ _ _ _
   | exact LeO.none _
   | refine LeO.ite ?_ ?_
   | refine LeO.bind ?_ (fun _ => ?_)
theorem ub_.mono : ∀ a0 a1 k, LeO (ub_.f k a0 a1) (ub_.f (k + 1) a0 a1) := by
 intro a0 a1 k
 have ih0 := ub_.xc_ k
 unfold ub_.f
 repeat' first
   | (with_reducible exact ih0 _ _ _ _)
   | (with_reducible exact LeO.refl _)
   | (with_reducible exact LeO.none _)
   | (with_reducible refine LeO.ite ?_ ?_)
   | (with_reducible refine LeO.bind ?_ (fun _ => ?_))
   | exact ih0 _ _ _ _
   | exact LeO.none _
   | refine LeO.ite ?_ ?_
   | refine LeO.bind ?_ (fun _ => ?_)
set_option maxHeartbeats 8000000 in
set_option maxRecDepth 100000 in
theorem ub_.calls (k : Nat) (A0 : Option Addr) (c0 : Nat) (l0 : List Int) (A1 : Option Addr) (c1 : Nat) (l1 : List Int) (r : Int) (w : World) (hr0 : Kd.C (Kd.int .i64) w A0 l0.length l0) (hc0 : l0.length ≤ c0) (hr1 : Kd.C (Kd.int .i64) w A1 l1.length l1) (hc1 : l1.length ≤ c1) (h : ub_.f k l0 l1 = some r) :
  Calls Try.prog 37 #[.slice A0 l0.length c0, .slice A1 l1.length c1] w fun e w' => e = .returned (.int .i64 r) ∧ ra_ w w' := by
 have HR0 := ba_.mk hr0
 have HC0 := ba_.mk hc0
 clear hr0 hc0
 have HR1 := ba_.mk hr1
 have HC1 := ba_.mk hc1
 clear hr1 hc1
 have H : (if (l0.length : Int) = (l1.length : Int) then (ub_.l0 k l0 l1 0 0) else (some (-1))) = some r := h
 clear h
 by_cases c3 : (l0.length : Int) = (l1.length : Int)
 ·rw [if_pos c3] at H
  have c3b0 : ((l0.length : Int) == (l1.length : Int)) = true := beq_iff_eq.mpr c3
  try have c3b9 := eq_true (beq_iff_eq.mp c3b0)
  have c3b1 : ((l0.length : Int) != (l1.length : Int)) = false := bne_eq_false_iff_eq.mpr c3
  have c3b2 : (l0.length == l1.length) = true := by first | simpa using c3 | (simp at c3 ⊢; omega)
  clear c3
  have H' := ba_.mk H
  clear H
  go_enter Try.func37, Try.ntmps37
  go_wp2
  repeat (go_quiet (fail); try go_wp2)
  go_loopg [5, 6] k (fun kq v5 v6 w' => ∃ (x5_1 : Int) (x6_1 : Int), v5 = .int .i64 x5_1 ∧ v6 = .int .i64 x6_1 ∧ ba_ (ub_.l0 kq l0 l1 x5_1 x6_1 = some r) ∧ ba_ (kq ≤ k) ∧ ra_ w w')
  case atStart => exact ⟨(0), (0), (by first | rfl | (simp; done) | (simp [*]; done)), (by first | rfl | (simp; done) | (simp [*]; done)), H', ⟨Nat.le_refl _⟩, by repeat (first | exact ra_.refl _ | apply ra_.step)⟩
  case round =>
   clear H'
   try clear c1
   try clear p2
   try clear c3
   try clear c3b0
   try clear c3b1
   try clear c3b2
   obtain ⟨x5_1, x6_1, rfl, rfl, HA, HK1, ⟨m1, rfl⟩⟩ := hrel
   cases gk with
   | zero => exact absurd HA.out (by simp [ub_.l0])
   | succ k1 =>
    have H := HA.out
    clear HA
    simp only [ub_.l0] at H
    by_cases c4 : x6_1 < (l0.length : Int)
    ·rw [if_pos c4] at H
     have c4b0 : decide (x6_1 < (l0.length : Int)) = true := decide_eq_true c4
     clear c4
     by_cases c5 : 0 ≤ x6_1
     ·rw [if_pos c5] at H
      have c5b0 : decide (0 ≤ x6_1) = true := decide_eq_true c5
      clear c5
      by_cases c6 : x6_1 < (l1.length : Int)
      ·rw [if_pos c6] at H
       have c6b0 : decide (x6_1 < (l1.length : Int)) = true := decide_eq_true c6
       clear c6
       by_cases c7 : (rd l0 x6_1) = (rd l1 x6_1)
       ·rw [if_pos c7] at H
        have c7b0 : ((rd l0 x6_1) == (rd l1 x6_1)) = true := beq_iff_eq.mpr c7
        try have c7b9 := eq_true (beq_iff_eq.mp c7b0)
        have c7b1 : ((rd l0 x6_1) != (rd l1 x6_1)) = false := bne_eq_false_iff_eq.mpr c7
        clear c7
        have H' := ba_.mk H
        clear H
        have p406 : 0 ≤ (x6_1 : Int) := of_decide_eq_true (by first | (with_reducible assumption) | assumption)
        have q406 : x6_1 < (l0.length : Int) := of_decide_eq_true (by first | (with_reducible assumption) | assumption)
        obtain ⟨ad406, e406, hx406_0⟩ := Kd.nd_ HR0.out x6_1 p406 q406
        cases e406
        replace p406 := eq_true p406
        replace q406 := eq_true q406
        have p407 : 0 ≤ (x6_1 : Int) := of_decide_eq_true (by first | (with_reducible assumption) | assumption)
        have q407 : x6_1 < (l1.length : Int) := of_decide_eq_true (by first | (with_reducible assumption) | assumption)
        obtain ⟨ad407, e407, hx407_0⟩ := Kd.nd_ HR1.out x6_1 p407 q407
        cases e407
        replace p407 := eq_true p407
        replace q407 := eq_true q407
        go_wp2
        repeat (go_quiet (fail); try go_wp2)
        go_roundg k1
        case measure => have := HK1.out; omega
        case rel => exact ⟨(x5_1), (wrap64 (x6_1 + 1)), (by first | rfl | (simp; done) | (simp [*]; done)), (by first | rfl | (simp; done) | (simp [*]; done)), H', ⟨by have := HK1.out; omega⟩, by repeat (first | exact ra_.refl _ | apply ra_.step)⟩
       ·rw [if_neg c7] at H
        have c7b0 : ((rd l0 x6_1) == (rd l1 x6_1)) = false := beq_eq_false_iff_ne.mpr c7
        try have c7b9 := eq_false (beq_eq_false_iff_ne.mp c7b0)
        have c7b1 : ((rd l0 x6_1) != (rd l1 x6_1)) = true := bne_iff_ne.mpr c7
        have H' := ba_.mk H
        clear H
        have p406 : 0 ≤ (x6_1 : Int) := of_decide_eq_true (by first | (with_reducible assumption) | assumption)
        have q406 : x6_1 < (l0.length : Int) := of_decide_eq_true (by first | (with_reducible assumption) | assumption)
        obtain ⟨ad406, e406, hx406_0⟩ := Kd.nd_ HR0.out x6_1 p406 q406
        cases e406
        replace p406 := eq_true p406
        replace q406 := eq_true q406
        have p407 : 0 ≤ (x6_1 : Int) := of_decide_eq_true (by first | (with_reducible assumption) | assumption)
        have q407 : x6_1 < (l1.length : Int) := of_decide_eq_true (by first | (with_reducible assumption) | assumption)
        obtain ⟨ad407, e407, hx407_0⟩ := Kd.nd_ HR1.out x6_1 p407 q407
        cases e407
        replace p407 := eq_true p407
        replace q407 := eq_true q407
        go_wp2
        repeat (go_quiet (fail); try go_wp2)
        go_roundg k1
        case measure => have := HK1.out; omega
        case rel => exact ⟨(wrap64 (x5_1 + 1)), (wrap64 (x6_1 + 1)), (by first | rfl | (simp; done) | (simp [*]; done)), (by first | rfl | (simp; done) | (simp [*]; done)), H', ⟨by have := HK1.out; omega⟩, by repeat (first | exact ra_.refl _ | apply ra_.step)⟩
      ·rw [if_neg c6] at H
       exact absurd H (by simp)
     ·rw [if_neg c5] at H
      exact absurd H (by simp)
    ·rw [if_neg c4] at H
     have c4b0 : decide (x6_1 < (l0.length : Int)) = false := decide_eq_false c4
     clear c4
     obtain rfl := Option.some.inj H
     go_wp2
     repeat (go_quiet (fail); try go_wp2)
     go_ret
     exact ⟨by first | rfl | (simp; done) | (simp [*]; done), by repeat (first | exact ra_.refl _ | apply ra_.step)⟩
 ·rw [if_neg c3] at H
  have c3b0 : ((l0.length : Int) == (l1.length : Int)) = false := beq_eq_false_iff_ne.mpr c3
  try have c3b9 := eq_false (beq_eq_false_iff_ne.mp c3b0)
  have c3b1 : ((l0.length : Int) != (l1.length : Int)) = true := bne_iff_ne.mpr c3
  have c3b2 : (l0.length == l1.length) = false := by first | simpa using c3 | (simp at c3 ⊢; omega)
  obtain rfl := Option.some.inj H
  go_enter Try.func37, Try.ntmps37
  go_wp2
  repeat (go_quiet (fail); try go_wp2)
  go_ret
  exact ⟨by first | rfl | (simp; done) | (simp [*]; done), by repeat (first | exact ra_.refl _ | apply ra_.step)⟩
end Go.Proofs.Ytpkhgapifnjbeaa.Y
end
section
namespace Go.Proofs.Ytpkhgapifnjbeaa.Y
open Go.RowKit Go.Proofs.Ytpkhgapifnjbeaa.G Go.Proofs.Ytpkhgapifnjbeaa.Rs Go.Proofs.YtpkhgapifnjbeaaW.PrintWords Go.Proofs.YtpkhgapifnjbeaaW.PrintLast Go.Proofs.YtpkhgapifnjbeaaW.PrintMore
attribute [local go_sem] dd_ fd_ rd_ sd_ uc_ vc_ ed_ gd_
set_option linter.unusedVariables false
set_option linter.unusedSimpArgs false
def nb_.j0 : Nat → List Int → List Int → Bool → Option (Bool)
 | 0, _, _, _ => none
 | k + 1, x0, x1, x13 => if x13 = true then (some true) else ((tb_.f k x0 x1).bind fun t408 => ((ub_.f k x0 x1).bind fun t409 => (if t408 = t409 then (if 0 ≤ (mn (x0.length : Int) (x1.length : Int)) then (if (mn (x0.length : Int) (x1.length : Int)) ≤ (x0.length : Int) then (if (mn (x0.length : Int) (x1.length : Int)) ≤ (x1.length : Int) then ((tb_.f k (x0.take ((mn (x0.length : Int) (x1.length : Int)) : Int).toNat) (x1.take ((mn (x0.length : Int) (x1.length : Int)) : Int).toNat)).bind fun t412 => ((ub_.f k (x0.take ((mn (x0.length : Int) (x1.length : Int)) : Int).toNat) (x1.take ((mn (x0.length : Int) (x1.length : Int)) : Int).toNat)).bind fun t415 => (if t412 = t415 then ((tb_.f k x0 x0).bind fun t416 => (if t416 = 0 then ((ha_.f k).bind fun t417 => (some t417)) else (some false))) else (some false)))) else (none)) else (none)) else (none)) else (some false))))
def nb_.f (k : Nat) (l0 : List Int) (l1 : List Int) : Option (Bool) := if (l0.length : Int) > 200 then (nb_.j0 k l0 l1 true) else (nb_.j0 k l0 l1 (decide ((l1.length : Int) > 200)))
theorem nb_.xc_ : ∀ k, (∀ y0 y1 y2, LeO (nb_.j0 k y0 y1 y2) (nb_.j0 (k + 1) y0 y1 y2))
 | 0 => fun _ _ _ r h => by simp [nb_.j0] at h
 | k + 1 => by
  have ih0 := nb_.xc_ k
  ·intro y0 y1 y2
   unfold nb_.j0
   repeat' first
   | (with_reducible exact ih0 _ _ _)
   | (with_reducible exact ha_.mono _)
   | (with_reducible exact ub_.mono _ _ _)
   | (with_reducible exact tb_.mono _ _ _)
   | (with_reducible exact LeO.refl _)
   | (with_reducible exact LeO.none _)
   | (with_reducible refine LeO.ite ?_ ?_)
   | (with_reducible refine LeO.bind ?_ (fun _ => ?_))
   | exact ih0 _ _ _
   | exact ha_.mono _
   | exact ub_.mono _ _ _
   | exact tb_.mono _ _ _
   | exact LeO.none _
   | refine LeO.ite ?_ ?_
   | refine LeO.bind ?_ (fun _ => ?_)
theorem nb_.mono : ∀ a0 a1 k, LeO (nb_.f k a0 a1) (nb_.f (k + 1) a0 a1) := by
 intro a0 a1 k
 have ih0 := nb_.xc_ k
 unfold nb_.f
 repeat' first
   | (with_reducible exact ih0 _ _ _)
   | (with_reducible exact ha_.mono _)
   | (with_reducible exact ub_.mono _ _ _)
   | (with_reducible exact tb_.mono _ _ _)
   | (with_reducible exact LeO.refl _)
   | (with_reducible exact LeO.none _)
   | (with_reducible refine LeO.ite ?_ ?_)
   | (with_reducible refine LeO.bind ?_ (fun _ => ?_))
   | exact ih0 _ _ _
   | exact ha_.mono _
   | exact ub_.mono _ _ _
   | exact tb_.mono _ _ _
   | exact LeO.none _
   | refine LeO.ite ?_ ?_
   | refine LeO.bind ?_ (fun _ => ?_)
def nb_.T4 : Bool × List (List Nat × List Nat) := (true, [([], []), ([], []), ([0, 1], [0, 1]), ([], []), ([], []), ([3, 4, 2], [3, 4]), ([2, 5], [2, 5]), ([6, 5], [6]), ([7], [7]), ([7], [7]), ([8, 9, 7], [7, 8, 9]), ([7], [7]), ([7], [7]), ([11, 12, 7], [7, 11, 12]), ([10, 13, 7, 7], [7, 10, 13]), ([7], [7]), ([7], [7]), ([15, 16, 7], [7, 15, 16]), ([7], [7]), ([7], [7]), ([18, 19, 7], [7, 18, 19]), ([17, 20, 14, 7], [7, 17, 20]), ([14, 21, 7], [7, 14, 21]), ([7, 22], [7, 22]), ([23, 21], [23]), ([24], [24]), ([24], [24]), ([25, 26, 24, 24], [24, 25, 26]), ([27, 24], [24, 27]), ([24, 28], [24, 28]), ([29, 27], [29]), ([30, 30], [30]), ([30, 31], [30, 31]), ([32, 31, 0, 1, 2, 3, 4, 5, 6, 7, 8, 9, 10, 11, 12, 13, 14, 15, 16, 17, 18, 19, 20, 21, 22, 23, 24, 25, 26, 27, 28, 29, 30, 31, 32], [32])])
def nb_.B4 : List Nat := [0, 0, 3, 0, 0, 31, 63, 127, 255, 255, 1023, 255, 255, 6399, 16383, 255, 255, 98559, 255, 255, 786687, 2097151, 4194303, 8388607, 16777215, 33554431, 33554431, 134217727, 268435455, 536870911, 1073741823, 2147483647, 4294967295, 8589934591]
theorem nb_.tab4 : rtab .any (opsOf Try.f13 4) = nb_.T4 := by kernel_rfl
theorem nb_.bits4 : yi_ nb_.T4.2 nb_.B4 = true := by kernel_rfl
set_option maxHeartbeats 8000000 in
set_option maxRecDepth 100000 in
theorem nb_.calls (k : Nat) (A0 : Option Addr) (c0 : Nat) (l0 : List Int) (A1 : Option Addr) (c1 : Nat) (l1 : List Int) (r : Bool) (w : World) (hr0 : Kd.C (Kd.int .i64) w A0 l0.length l0) (hc0 : l0.length ≤ c0) (hr1 : Kd.C (Kd.int .i64) w A1 l1.length l1) (hc1 : l1.length ≤ c1) (h : nb_.f k l0 l1 = some r) (hr_ : r = true) :
  Calls Try.prog 13 #[.slice A0 l0.length c0, .slice A1 l1.length c1] w fun e w' => e = .returned (.bool r) ∧ Below w.heap.size w w' := by
 have HRT := ba_.mk hr_
 clear hr_
 have HR0 := ba_.mk hr0
 have HC0 := ba_.mk hc0
 clear hr0 hc0
 have HR1 := ba_.mk hr1
 have HC1 := ba_.mk hc1
 clear hr1 hc1
 have HB := ba_.mk (Below.refl w.heap.size w)
 have H : (if (l0.length : Int) > 200 then (nb_.j0 k l0 l1 true) else (nb_.j0 k l0 l1 (decide ((l1.length : Int) > 200)))) = some r := h
 clear h
 have HC3 := ba_.mk H
 clear H
 go_enter Try.func13, Try.ntmps13
 go_upto_region 1 with (fail)
 go_cut [13] (fun v13 wc => ∃ (kq : Nat) (x13_2 : Bool), v13 = .bool x13_2 ∧ ba_ (nb_.j0 kq l0 l1 x13_2 = some r) ∧ ba_ (kq ≤ k) ∧ ba_ (Below w.heap.size w wc))
 case first =>
  have H := HC3.out
  clear HC3
  by_cases c4 : (l0.length : Int) > 200
  ·rw [if_pos c4] at H
   have c4b0 : decide (200 < (l0.length : Int)) = true := decide_eq_true c4
   have c4b1 : decide (200 < l0.length) = true := decide_eq_true (by omega)
   clear c4
   (first | rw [c4b0] | (simp only [gc_, lc_]; rw [c4b0]) | skip)
   have H' := ba_.mk H
   clear H
   go_wp2
   go_meet
   case rel => exact ⟨_, (true), (by first | rfl | (simp; done) | (simp [*]; done)), H', ⟨by first | omega | exact Nat.le_refl _⟩, ⟨by repeat (first | (with_reducible first | exact HB.out | apply fa_ | apply ca_ | apply ga_) | exact HB.out)⟩⟩
  ·rw [if_neg c4] at H
   have c4b0 : decide (200 < (l0.length : Int)) = false := decide_eq_false c4
   have c4b1 : decide (200 < l0.length) = false := decide_eq_false (by omega)
   clear c4
   (first | rw [c4b0] | (simp only [gc_, lc_]; rw [c4b0]) | skip)
   have H' := ba_.mk H
   clear H
   go_wp2
   go_meet
   case rel => exact ⟨_, (decide ((l1.length : Int) > 200)), (by first | rfl | (simp; done) | (simp [*]; done)), H', ⟨by first | omega | exact Nat.le_refl _⟩, ⟨by repeat (first | (with_reducible first | exact HB.out | apply fa_ | apply ca_ | apply ga_) | exact HB.out)⟩⟩
 case rest =>
  clear HC3
  try clear c1
  try clear p2
  try clear c4
  try clear c4b0
  try clear c4b1
  obtain ⟨kq, x13_2, rfl, HA, HJ2, HB⟩ := hcut
  cases kq with
  | zero => exact absurd HA.out (by simp [nb_.j0])
  | succ kj2 =>
   have H := HA.out
   clear HA
   simp only [nb_.j0] at H
   by_cases c5 : x13_2 = true
   ·subst c5
    have H1 : (some true) = some r := by rw [if_pos rfl] at H; exact H
    clear H
    have H := H1
    clear H1
    obtain rfl := Option.some.inj H
    go_wp2
    go_ret
    exact ⟨by first | rfl | (simp [bb_, cb_] <;> rfl) | (simp [*, bb_, cb_] <;> rfl), by repeat (first | (with_reducible first | exact HB.out | apply fa_ | apply ca_ | apply ga_) | exact HB.out)⟩
   ·replace c5 := Bool.eq_false_iff.mpr c5
    subst c5
    have H1 : ((tb_.f kj2 l0 l1).bind fun t408 => ((ub_.f kj2 l0 l1).bind fun t409 => (if t408 = t409 then (if 0 ≤ (mn (l0.length : Int) (l1.length : Int)) then (if (mn (l0.length : Int) (l1.length : Int)) ≤ (l0.length : Int) then (if (mn (l0.length : Int) (l1.length : Int)) ≤ (l1.length : Int) then ((tb_.f kj2 (l0.take ((mn (l0.length : Int) (l1.length : Int)) : Int).toNat) (l1.take ((mn (l0.length : Int) (l1.length : Int)) : Int).toNat)).bind fun t412 => ((ub_.f kj2 (l0.take ((mn (l0.length : Int) (l1.length : Int)) : Int).toNat) (l1.take ((mn (l0.length : Int) (l1.length : Int)) : Int).toNat)).bind fun t415 => (if t412 = t415 then ((tb_.f kj2 l0 l0).bind fun t416 => (if t416 = 0 then ((ha_.f kj2).bind fun t417 => (some t417)) else (some false))) else (some false)))) else (none)) else (none)) else (none)) else (some false)))) = some r := by rw [if_neg (show ¬ (false = true) by decide)] at H; exact H
    clear H
    have H := H1
    clear H1
    obtain ⟨ji6, hji6⟩ : ∃ j_ : Int, (mn (l0.length : Int) (l1.length : Int)) = j_ := ⟨_, rfl⟩
    replace H : ((tb_.f kj2 l0 l1).bind fun t408 => ((ub_.f kj2 l0 l1).bind fun t409 => (if t408 = t409 then (if 0 ≤ (ji6) then (if (ji6) ≤ (l0.length : Int) then (if (ji6) ≤ (l1.length : Int) then ((tb_.f kj2 (l0.take ((ji6) : Int).toNat) (l1.take ((ji6) : Int).toNat)).bind fun t412 => ((ub_.f kj2 (l0.take ((ji6) : Int).toNat) (l1.take ((ji6) : Int).toNat)).bind fun t415 => (if t412 = t415 then ((tb_.f kj2 l0 l0).bind fun t416 => (if t416 = 0 then ((ha_.f kj2).bind fun t417 => (some t417)) else (some false))) else (some false)))) else (none)) else (none)) else (none)) else (some false)))) = some r := by first | (rw [hji6] at H; exact H) | (simp only [hji6] at H ⊢; exact H)
    have hji6_ : (if (l1.length : Int) < (l0.length : Int) then (l1.length : Int) else (l0.length : Int)) = ji6 := hji6
    have hji6_b : (if l1.length < l0.length then (l1.length : Int) else (l0.length : Int)) = ji6 := by rw [← hji6_]; by_cases h_ : l1.length < l0.length <;> simp [h_]
    replace H := Option.bind_eq_some_iff.mp H
    obtain ⟨t408, A70, H⟩ := H
    replace H : ((ub_.f kj2 l0 l1).bind fun t409 => (if t408 = t409 then (if 0 ≤ (ji6) then (if (ji6) ≤ (l0.length : Int) then (if (ji6) ≤ (l1.length : Int) then ((tb_.f kj2 (l0.take ((ji6) : Int).toNat) (l1.take ((ji6) : Int).toNat)).bind fun t412 => ((ub_.f kj2 (l0.take ((ji6) : Int).toNat) (l1.take ((ji6) : Int).toNat)).bind fun t415 => (if t412 = t415 then ((tb_.f kj2 l0 l0).bind fun t416 => (if t416 = 0 then ((ha_.f kj2).bind fun t417 => (some t417)) else (some false))) else (some false)))) else (none)) else (none)) else (none)) else (some false))) = some r := H
    have A7 := ba_.mk A70
    clear A70
    replace H := Option.bind_eq_some_iff.mp H
    obtain ⟨t409, A80, H⟩ := H
    replace H : (if t408 = t409 then (if 0 ≤ (ji6) then (if (ji6) ≤ (l0.length : Int) then (if (ji6) ≤ (l1.length : Int) then ((tb_.f kj2 (l0.take ((ji6) : Int).toNat) (l1.take ((ji6) : Int).toNat)).bind fun t412 => ((ub_.f kj2 (l0.take ((ji6) : Int).toNat) (l1.take ((ji6) : Int).toNat)).bind fun t415 => (if t412 = t415 then ((tb_.f kj2 l0 l0).bind fun t416 => (if t416 = 0 then ((ha_.f kj2).bind fun t417 => (some t417)) else (some false))) else (some false)))) else (none)) else (none)) else (none)) else (some false)) = some r := H
    have A8 := ba_.mk A80
    clear A80
    by_cases c9 : t408 = t409
    ·rw [if_pos c9] at H
     have c9b0 : (t408 == t409) = true := beq_iff_eq.mpr c9
     have c9b1 : (t408 != t409) = false := bne_eq_false_iff_eq.mpr c9
     clear c9
     by_cases c10 : 0 ≤ (ji6)
     ·rw [if_pos c10] at H
      have c10b0 := eq_true c10
      have c10b1 : decide (0 ≤ (ji6)) = true := decide_eq_true c10
      clear c10
      by_cases c11 : (ji6) ≤ (l0.length : Int)
      ·rw [if_pos c11] at H
       have c11b0 := eq_true c11
       have c11b1 : decide ((ji6) ≤ (l0.length : Int)) = true := decide_eq_true c11
       clear c11
       have c12b0 := eq_true (of_decide_eq_true (by first | (with_reducible assumption) | assumption) : 0 ≤ (ji6))
       by_cases c13 : (ji6) ≤ (l1.length : Int)
       ·rw [if_pos c13] at H
        have c13b0 := eq_true c13
        have c13b1 : decide ((ji6) ≤ (l1.length : Int)) = true := decide_eq_true c13
        clear c13
        replace H := Option.bind_eq_some_iff.mp H
        obtain ⟨t412, A140, H⟩ := H
        replace H : ((ub_.f kj2 (l0.take ((ji6) : Int).toNat) (l1.take ((ji6) : Int).toNat)).bind fun t415 => (if t412 = t415 then ((tb_.f kj2 l0 l0).bind fun t416 => (if t416 = 0 then ((ha_.f kj2).bind fun t417 => (some t417)) else (some false))) else (some false))) = some r := H
        have A14 := ba_.mk A140
        clear A140
        have c15b0 := eq_true (of_decide_eq_true (by first | (with_reducible assumption) | assumption) : 0 ≤ (ji6))
        have c16b0 := eq_true (of_decide_eq_true (by first | (with_reducible assumption) | assumption) : (ji6) ≤ (l0.length : Int))
        have c17b0 := eq_true (of_decide_eq_true (by first | (with_reducible assumption) | assumption) : 0 ≤ (ji6))
        have c18b0 := eq_true (of_decide_eq_true (by first | (with_reducible assumption) | assumption) : (ji6) ≤ (l1.length : Int))
        replace H := Option.bind_eq_some_iff.mp H
        obtain ⟨t415, A190, H⟩ := H
        replace H : (if t412 = t415 then ((tb_.f kj2 l0 l0).bind fun t416 => (if t416 = 0 then ((ha_.f kj2).bind fun t417 => (some t417)) else (some false))) else (some false)) = some r := H
        have A19 := ba_.mk A190
        clear A190
        by_cases c20 : t412 = t415
        ·rw [if_pos c20] at H
         have c20b0 : (t412 == t415) = true := beq_iff_eq.mpr c20
         have c20b1 : (t412 != t415) = false := bne_eq_false_iff_eq.mpr c20
         clear c20
         replace H := Option.bind_eq_some_iff.mp H
         obtain ⟨t416, A210, H⟩ := H
         replace H : (if t416 = 0 then ((ha_.f kj2).bind fun t417 => (some t417)) else (some false)) = some r := H
         have A21 := ba_.mk A210
         clear A210
         by_cases c22 : t416 = 0
         ·rw [if_pos c22] at H
          have c22b0 : (t416 == 0) = true := beq_iff_eq.mpr c22
          have c22b1 : (t416 != 0) = false := bne_eq_false_iff_eq.mpr c22
          clear c22
          replace H := Option.bind_eq_some_iff.mp H
          obtain ⟨t417, A230, H⟩ := H
          replace H : (some t417) = some r := H
          have A23 := ba_.mk A230
          clear A230
          obtain rfl := Option.some.inj H
          try go_wp2
          have n0_ := ba_.mk (ga_ HB.out)
          clear HB
          have HB := n0_
          clear n0_
          refine mi_ (n := 34) (S := fun w' => True) (ds := []) #[false, false, false, false, false, false, false, false, false, false, false, false, false, false, false, false, false, false, false, false, false, false, false, false, false, false, false, false, false, false, false, false, false, false] (by kernel_rfl) rfl rfl trivial (fun hHeld => ?_); refine ni_ nb_.tab4 nb_.bits4 (fun HT_ HW_ => ?_)
          generalize wc.drew = w24 at HB hHeld ⊢
          refine id_ (i := 0) (N := some 19) (v := ?_) (a' := ?_) #[true, false, false, false, false, false, false, false, false, false, false, false, false, false, false, false, false, false, false, false, false, false, false, false, false, false, false, false, false, false, false, false, false, false] rfl rfl (td_ HT_.out (by kernel_rfl)) (fun _ _ _ h => h) (Or.inl ⟨by rfl, ?_⟩) ?_ ?_
          rotate_left
          ·intro w'
           go_simp
           with_reducible rfl
          rotate_left
          ·simp only [Act.put, List.setIfInBounds_toArray, List.set_cons_zero, List.set_cons_succ, gc_, lc_]
           rfl
          refine id_ (i := 1) (N := some 20) (v := ?_) (a' := ?_) #[true, true, false, false, false, false, false, false, false, false, false, false, false, false, false, false, false, false, false, false, false, false, false, false, false, false, false, false, false, false, false, false, false, false] rfl rfl (td_ HT_.out (by kernel_rfl)) (fun _ _ _ h => h) (Or.inl ⟨by rfl, ?_⟩) ?_ ?_
          rotate_left
          ·intro w'
           go_simp
           with_reducible rfl
          rotate_left
          ·simp only [Act.put, List.setIfInBounds_toArray, List.set_cons_zero, List.set_cons_succ, gc_, lc_]
           rfl
          refine id_ (i := 3) (N := some 22) (v := ?_) (a' := ?_) #[true, true, false, true, false, false, false, false, false, false, false, false, false, false, false, false, false, false, false, false, false, false, false, false, false, false, false, false, false, false, false, false, false, false] rfl rfl (td_ HT_.out (by kernel_rfl)) (fun _ _ _ h => h) (Or.inl ⟨by rfl, ?_⟩) ?_ ?_
          rotate_left
          ·intro w'
           go_simp
           with_reducible rfl
          rotate_left
          ·simp only [Act.put, List.setIfInBounds_toArray, List.set_cons_zero, List.set_cons_succ, gc_, lc_]
           rfl
          refine id_ (i := 4) (N := some 23) (v := ?_) (a' := ?_) #[true, true, false, true, true, false, false, false, false, false, false, false, false, false, false, false, false, false, false, false, false, false, false, false, false, false, false, false, false, false, false, false, false, false] rfl rfl (td_ HT_.out (by kernel_rfl)) (fun _ _ _ h => h) (Or.inl ⟨by rfl, ?_⟩) ?_ ?_
          rotate_left
          ·intro w'
           go_simp
           with_reducible rfl
          rotate_left
          ·simp only [Act.put, List.setIfInBounds_toArray, List.set_cons_zero, List.set_cons_succ, gc_, lc_]
           rfl
          refine one_ (i := 2) (N := some 21) #[true, true, true, true, true, false, false, false, false, false, false, false, false, false, false, false, false, false, false, false, false, false, false, false, false, false, false, false, false, false, false, false, false, false] rfl rfl (ah_ HT_.out (by kernel_rfl)) (by decide) (fun K hK => ?_)
          refine bk_ Try.func36 (by kernel_rfl) rfl #[.slice A0 l0.length c0, .slice A1 l1.length c1] (by rfl) rfl rfl (by (try simp only [List.map_toArray, List.map_cons, List.map_nil]); first | done | rfl | (simp only [List.length_drop, List.length_take]; rfl)) ?_
          with_reducible refine (tb_.calls kj2 _ _ l0 _ _ l1 t408 _ ?side1 ?side2 ?side3 ?side4 A7.out).mono ?_
          (case side1 => repeat (first | exact (Kd.ie_ HR0.out HB.out) | (with_reducible refine Kd.yb_ ?_ _) | (with_reducible refine Kd.zb_ ?_ _) | (with_reducible refine Kd.jc_ ?_)))
          (case side2 => exact HC0.out)
          (case side3 => repeat (first | exact (Kd.ie_ HR1.out HB.out) | (with_reducible refine Kd.yb_ ?_ _) | (with_reducible refine Kd.zb_ ?_ _) | (with_reducible refine Kd.jc_ ?_)))
          (case side4 => exact HC1.out)
          rintro e w' ⟨rfl, ⟨nd, rfl⟩⟩
          refine ⟨_, rfl, ?_⟩
          refine hK.out _ _ trivial (fun hHeld => ?_)
          clear hK K
          refine ej_ (a' := ?_) ?_ ?_
          rotate_left
          ·show Act.put _ (some 21) _ = _
           simp only [Act.put, List.setIfInBounds_toArray, List.set_cons_zero, List.set_cons_succ, gc_, lc_]
           rfl
          refine one_ (i := 5) (N := some 24) #[true, true, true, true, true, true, false, false, false, false, false, false, false, false, false, false, false, false, false, false, false, false, false, false, false, false, false, false, false, false, false, false, false, false] rfl rfl (ah_ HT_.out (by kernel_rfl)) (by decide) (fun K hK => ?_)
          refine bk_ Try.func37 (by kernel_rfl) rfl #[.slice A0 l0.length c0, .slice A1 l1.length c1] (by rfl) rfl rfl (by (try simp only [List.map_toArray, List.map_cons, List.map_nil]); first | done | rfl | (simp only [List.length_drop, List.length_take]; rfl)) ?_
          with_reducible refine (ub_.calls kj2 _ _ l0 _ _ l1 t409 _ ?side1 ?side2 ?side3 ?side4 A8.out).mono ?_
          (case side1 => repeat (first | exact (Kd.ie_ HR0.out (by repeat (first | (with_reducible first | exact HB.out | apply fa_ | apply ca_ | apply ga_) | exact HB.out))) | (with_reducible refine Kd.yb_ ?_ _) | (with_reducible refine Kd.zb_ ?_ _) | (with_reducible refine Kd.jc_ ?_)))
          (case side2 => exact HC0.out)
          (case side3 => repeat (first | exact (Kd.ie_ HR1.out (by repeat (first | (with_reducible first | exact HB.out | apply fa_ | apply ca_ | apply ga_) | exact HB.out))) | (with_reducible refine Kd.yb_ ?_ _) | (with_reducible refine Kd.zb_ ?_ _) | (with_reducible refine Kd.jc_ ?_)))
          (case side4 => exact HC1.out)
          rintro e w' ⟨rfl, ⟨nd, rfl⟩⟩
          refine ⟨_, rfl, ?_⟩
          obtain ⟨i025, hi025, _, hsz25, _⟩ := info_parts te_
          obtain ⟨hcut25, hA25, hC25⟩ := hf_ (P := Try.prog) (Value.int .i64) 0 27 3 .i64 Try.underlying27 hi025 hsz25 A0 c0 l0 (ji6) (of_decide_eq_true (by first | (with_reducible assumption) | assumption)) (of_decide_eq_true (by first | (with_reducible assumption) | assumption)) HC0.out
          have HR410 := ba_.mk (Kd.ue_ (h1 := fun _ => rfl) (hA25 _ (Kd.xf_ HR0.out)))
          have HC410 := ba_.mk hC25
          clear hA25 hC25 hi025 hsz25
          obtain ⟨i026, hi026, _, hsz26, _⟩ := info_parts te_
          obtain ⟨hcut26, hA26, hC26⟩ := hf_ (P := Try.prog) (Value.int .i64) 0 27 3 .i64 Try.underlying27 hi026 hsz26 A1 c1 l1 (ji6) (of_decide_eq_true (by first | (with_reducible assumption) | assumption)) (of_decide_eq_true (by first | (with_reducible assumption) | assumption)) HC1.out
          have HR411 := ba_.mk (Kd.ue_ (h1 := fun _ => rfl) (hA26 _ (Kd.xf_ HR1.out)))
          have HC411 := ba_.mk hC26
          clear hA26 hC26 hi026 hsz26
          refine hK.out _ _ trivial (fun hHeld => ?_)
          clear hK K
          refine ej_ (a' := ?_) ?_ ?_
          rotate_left
          ·show Act.put _ (some 24) _ = _
           simp only [Act.put, List.setIfInBounds_toArray, List.set_cons_zero, List.set_cons_succ, gc_, lc_]
           rfl
          refine id_ (i := 6) (N := some 25) (v := ?_) (a' := ?_) #[true, true, true, true, true, true, true, false, false, false, false, false, false, false, false, false, false, false, false, false, false, false, false, false, false, false, false, false, false, false, false, false, false, false] rfl rfl (td_ HT_.out (by kernel_rfl)) (fun _ _ _ h => h) (Or.inl ⟨by rfl, ?_⟩) ?_ ?_
          rotate_left
          ·intro w'
           go_simp
           with_reducible rfl
          rotate_left
          ·simp only [Act.put, List.setIfInBounds_toArray, List.set_cons_zero, List.set_cons_succ, gc_, lc_]
           rfl
          refine id_ (i := 7) (N := some 26) (v := ?_) (a' := ?_) #[true, true, true, true, true, true, true, true, false, false, false, false, false, false, false, false, false, false, false, false, false, false, false, false, false, false, false, false, false, false, false, false, false, false] rfl rfl (td_ HT_.out (by kernel_rfl)) (fun _ _ _ h => h) (Or.inl ⟨by rfl, ?_⟩) ?_ ?_
          rotate_left
          ·intro w'
           go_simp
           with_reducible rfl
          rotate_left
          ·simp only [Act.put, List.setIfInBounds_toArray, List.set_cons_zero, List.set_cons_succ, gc_, lc_]
           rfl
          refine id_ (i := 8) (N := some 27) (v := ?_) (a' := ?_) #[true, true, true, true, true, true, true, true, true, false, false, false, false, false, false, false, false, false, false, false, false, false, false, false, false, false, false, false, false, false, false, false, false, false] rfl rfl (td_ HT_.out (by kernel_rfl)) (fun _ _ _ h => h) (Or.inl ⟨by rfl, ?_⟩) ?_ ?_
          rotate_left
          ·intro w'
           go_simp
           with_reducible rfl
          rotate_left
          ·simp only [Act.put, List.setIfInBounds_toArray, List.set_cons_zero, List.set_cons_succ, gc_, lc_]
           rfl
          refine id_ (i := 9) (N := some 28) (v := ?_) (a' := ?_) #[true, true, true, true, true, true, true, true, true, true, false, false, false, false, false, false, false, false, false, false, false, false, false, false, false, false, false, false, false, false, false, false, false, false] rfl rfl (td_ HT_.out (by kernel_rfl)) (fun _ _ _ h => h) (Or.inl ⟨by rfl, ?_⟩) ?_ ?_
          rotate_left
          ·intro w'
           go_simp
           with_reducible rfl
          rotate_left
          ·simp only [Act.put, List.setIfInBounds_toArray, List.set_cons_zero, List.set_cons_succ, gc_, lc_]
           rfl
          refine id_ (i := 10) (N := some 29) (v := ?_) (a' := ?_) #[true, true, true, true, true, true, true, true, true, true, true, false, false, false, false, false, false, false, false, false, false, false, false, false, false, false, false, false, false, false, false, false, false, false] rfl rfl (td_ HT_.out (by kernel_rfl)) (fun _ _ _ h => h) (Or.inl ⟨by rfl, ?_⟩) ?_ ?_
          rotate_left
          ·intro w'
           go_simp
           with_reducible rfl
          rotate_left
          ·simp only [Act.put, List.setIfInBounds_toArray, List.set_cons_zero, List.set_cons_succ, gc_, lc_]
           rfl
          refine id_ (i := 11) (N := some 30) (v := ?_) (a' := ?_) #[true, true, true, true, true, true, true, true, true, true, true, true, false, false, false, false, false, false, false, false, false, false, false, false, false, false, false, false, false, false, false, false, false, false] rfl rfl (td_ HT_.out (by kernel_rfl)) (fun _ _ _ h => h) (Or.inl ⟨by rfl, ?_⟩) ?_ ?_
          rotate_left
          ·intro w'
           go_simp
           with_reducible rfl
          rotate_left
          ·simp only [Act.put, List.setIfInBounds_toArray, List.set_cons_zero, List.set_cons_succ, gc_, lc_]
           rfl
          refine id_ (i := 12) (N := some 31) (v := ?_) (a' := ?_) #[true, true, true, true, true, true, true, true, true, true, true, true, true, false, false, false, false, false, false, false, false, false, false, false, false, false, false, false, false, false, false, false, false, false] rfl rfl (td_ HT_.out (by kernel_rfl)) (fun _ _ _ h => h) (Or.inl ⟨by rfl, ?_⟩) ?_ ?_
          rotate_left
          ·intro w'
           go_simp
           with_reducible rfl
          rotate_left
          ·simp only [Act.put, List.setIfInBounds_toArray, List.set_cons_zero, List.set_cons_succ, gc_, lc_]
           rfl
          refine id_ (i := 13) (N := some 32) (v := ?_) (a' := ?_) #[true, true, true, true, true, true, true, true, true, true, true, true, true, true, false, false, false, false, false, false, false, false, false, false, false, false, false, false, false, false, false, false, false, false] rfl rfl (td_ HT_.out (by kernel_rfl)) (fun _ _ _ h => h) (Or.inl ⟨by rfl, ?_⟩) ?_ ?_
          rotate_left
          ·intro w'
           go_simp
           with_reducible rfl
          rotate_left
          ·simp only [Act.put, List.setIfInBounds_toArray, List.set_cons_zero, List.set_cons_succ, gc_, lc_]
           rfl
          refine id_ (i := 15) (N := some 34) (v := ?_) (a' := ?_) #[true, true, true, true, true, true, true, true, true, true, true, true, true, true, false, true, false, false, false, false, false, false, false, false, false, false, false, false, false, false, false, false, false, false] rfl rfl (td_ HT_.out (by kernel_rfl)) (fun _ _ _ h => h) (Or.inl ⟨by rfl, ?_⟩) ?_ ?_
          rotate_left
          ·intro w'
           go_simp
           with_reducible rfl
          rotate_left
          ·simp only [Act.put, List.setIfInBounds_toArray, List.set_cons_zero, List.set_cons_succ, gc_, lc_]
           rfl
          refine id_ (i := 16) (N := some 35) (v := ?_) (a' := ?_) #[true, true, true, true, true, true, true, true, true, true, true, true, true, true, false, true, true, false, false, false, false, false, false, false, false, false, false, false, false, false, false, false, false, false] rfl rfl (td_ HT_.out (by kernel_rfl)) (fun _ _ _ h => h) (Or.inl ⟨by rfl, ?_⟩) ?_ ?_
          rotate_left
          ·intro w'
           go_simp
           with_reducible rfl
          rotate_left
          ·simp only [Act.put, List.setIfInBounds_toArray, List.set_cons_zero, List.set_cons_succ, gc_, lc_]
           rfl
          refine id_ (i := 17) (N := some 36) (v := ?_) (a' := ?_) #[true, true, true, true, true, true, true, true, true, true, true, true, true, true, false, true, true, true, false, false, false, false, false, false, false, false, false, false, false, false, false, false, false, false] rfl rfl (td_ HT_.out (by kernel_rfl)) (fun _ _ _ h => h) (Or.inl ⟨by rfl, ?_⟩) ?_ ?_
          rotate_left
          ·intro w'
           go_simp
           with_reducible rfl
          rotate_left
          ·simp only [Act.put, List.setIfInBounds_toArray, List.set_cons_zero, List.set_cons_succ, gc_, lc_]
           rfl
          refine id_ (i := 18) (N := some 37) (v := ?_) (a' := ?_) #[true, true, true, true, true, true, true, true, true, true, true, true, true, true, false, true, true, true, true, false, false, false, false, false, false, false, false, false, false, false, false, false, false, false] rfl rfl (td_ HT_.out (by kernel_rfl)) (fun _ _ _ h => h) (Or.inl ⟨by rfl, ?_⟩) ?_ ?_
          rotate_left
          ·intro w'
           go_simp
           with_reducible rfl
          rotate_left
          ·simp only [Act.put, List.setIfInBounds_toArray, List.set_cons_zero, List.set_cons_succ, gc_, lc_]
           rfl
          refine id_ (i := 19) (N := some 38) (v := ?_) (a' := ?_) #[true, true, true, true, true, true, true, true, true, true, true, true, true, true, false, true, true, true, true, true, false, false, false, false, false, false, false, false, false, false, false, false, false, false] rfl rfl (td_ HT_.out (by kernel_rfl)) (fun _ _ _ h => h) (Or.inl ⟨by rfl, ?_⟩) ?_ ?_
          rotate_left
          ·intro w'
           go_simp
           with_reducible rfl
          rotate_left
          ·simp only [Act.put, List.setIfInBounds_toArray, List.set_cons_zero, List.set_cons_succ, gc_, lc_]
           rfl
          refine id_ (i := 20) (N := some 39) (v := ?_) (a' := ?_) #[true, true, true, true, true, true, true, true, true, true, true, true, true, true, false, true, true, true, true, true, true, false, false, false, false, false, false, false, false, false, false, false, false, false] rfl rfl (td_ HT_.out (by kernel_rfl)) (fun _ _ _ h => h) (Or.inl ⟨by rfl, ?_⟩) ?_ ?_
          rotate_left
          ·intro w'
           go_simp
           with_reducible rfl
          rotate_left
          ·simp only [Act.put, List.setIfInBounds_toArray, List.set_cons_zero, List.set_cons_succ, gc_, lc_]
           rfl
          refine one_ (i := 14) (N := some 33) #[true, true, true, true, true, true, true, true, true, true, true, true, true, true, true, true, true, true, true, true, true, false, false, false, false, false, false, false, false, false, false, false, false, false] rfl rfl (ah_ HT_.out (by kernel_rfl)) (by decide) (fun K hK => ?_)
          refine bk_ Try.func36 (by kernel_rfl) rfl #[.slice A0 (l0.take ((ji6) : Int).toNat).length c0, .slice A1 (l1.take ((ji6) : Int).toNat).length c1] (by rfl) rfl rfl (by (try simp only [List.map_toArray, List.map_cons, List.map_nil]); first | done | (rw [show (l0.take ((ji6) : Int).toNat).length = (ji6).toNat from (by rw [List.length_take]; have h_ : ((ji6) : Int) ≤ (l0.length : Int) := of_decide_eq_true (by first | (with_reducible assumption) | assumption); omega), show (l1.take ((ji6) : Int).toNat).length = (ji6).toNat from (by rw [List.length_take]; have h_ : ((ji6) : Int) ≤ (l1.length : Int) := of_decide_eq_true (by first | (with_reducible assumption) | assumption); omega)] <;> rfl) | (rw [show (l0.take ((ji6) : Int).toNat).length = (ji6).toNat from (by rw [List.length_take]; have h_ : ((ji6) : Int) ≤ (l0.length : Int) := of_decide_eq_true (by first | (with_reducible assumption) | assumption); omega)] <;> rfl) | (rw [show (l1.take ((ji6) : Int).toNat).length = (ji6).toNat from (by rw [List.length_take]; have h_ : ((ji6) : Int) ≤ (l1.length : Int) := of_decide_eq_true (by first | (with_reducible assumption) | assumption); omega)] <;> rfl) | (simp only [hji6]; rfl) | rfl | (simp only [List.length_drop, List.length_take]; rfl)) ?_
          with_reducible refine (tb_.calls kj2 _ _ (l0.take ((ji6) : Int).toNat) _ _ (l1.take ((ji6) : Int).toNat) t412 _ ?side1 ?side2 ?side3 ?side4 A14.out).mono ?_
          (case side1 => repeat (first | exact (Kd.ie_ HR410.out (by repeat (first | (with_reducible first | exact HB.out | apply fa_ | apply ca_ | apply ga_) | exact HB.out))) | (with_reducible refine Kd.yb_ ?_ _) | (with_reducible refine Kd.zb_ ?_ _) | (with_reducible refine Kd.jc_ ?_)))
          (case side2 => exact HC410.out)
          (case side3 => repeat (first | exact (Kd.ie_ HR411.out (by repeat (first | (with_reducible first | exact HB.out | apply fa_ | apply ca_ | apply ga_) | exact HB.out))) | (with_reducible refine Kd.yb_ ?_ _) | (with_reducible refine Kd.zb_ ?_ _) | (with_reducible refine Kd.jc_ ?_)))
          (case side4 => exact HC411.out)
          rintro e w' ⟨rfl, ⟨nd, rfl⟩⟩
          refine ⟨_, rfl, ?_⟩
          obtain ⟨i027, hi027, _, hsz27, _⟩ := info_parts te_
          obtain ⟨hcut27, hA27, hC27⟩ := hf_ (P := Try.prog) (Value.int .i64) 0 27 3 .i64 Try.underlying27 hi027 hsz27 A0 c0 l0 (ji6) (of_decide_eq_true (by first | (with_reducible assumption) | assumption)) (of_decide_eq_true (by first | (with_reducible assumption) | assumption)) HC0.out
          have HR413 := ba_.mk (Kd.ue_ (h1 := fun _ => rfl) (hA27 _ (Kd.xf_ HR0.out)))
          have HC413 := ba_.mk hC27
          clear hA27 hC27 hi027 hsz27
          obtain ⟨i028, hi028, _, hsz28, _⟩ := info_parts te_
          obtain ⟨hcut28, hA28, hC28⟩ := hf_ (P := Try.prog) (Value.int .i64) 0 27 3 .i64 Try.underlying27 hi028 hsz28 A1 c1 l1 (ji6) (of_decide_eq_true (by first | (with_reducible assumption) | assumption)) (of_decide_eq_true (by first | (with_reducible assumption) | assumption)) HC1.out
          have HR414 := ba_.mk (Kd.ue_ (h1 := fun _ => rfl) (hA28 _ (Kd.xf_ HR1.out)))
          have HC414 := ba_.mk hC28
          clear hA28 hC28 hi028 hsz28
          refine hK.out _ _ trivial (fun hHeld => ?_)
          clear hK K
          refine ej_ (a' := ?_) ?_ ?_
          rotate_left
          ·show Act.put _ (some 33) _ = _
           simp only [Act.put, List.setIfInBounds_toArray, List.set_cons_zero, List.set_cons_succ, gc_, lc_]
           rfl
          refine one_ (i := 21) (N := some 40) #[true, true, true, true, true, true, true, true, true, true, true, true, true, true, true, true, true, true, true, true, true, true, false, false, false, false, false, false, false, false, false, false, false, false] rfl rfl (ah_ HT_.out (by kernel_rfl)) (by decide) (fun K hK => ?_)
          refine bk_ Try.func37 (by kernel_rfl) rfl #[.slice A0 (l0.take ((ji6) : Int).toNat).length c0, .slice A1 (l1.take ((ji6) : Int).toNat).length c1] (by rfl) rfl rfl (by (try simp only [List.map_toArray, List.map_cons, List.map_nil]); first | done | (rw [show (l0.take ((ji6) : Int).toNat).length = (ji6).toNat from (by rw [List.length_take]; have h_ : ((ji6) : Int) ≤ (l0.length : Int) := of_decide_eq_true (by first | (with_reducible assumption) | assumption); omega), show (l1.take ((ji6) : Int).toNat).length = (ji6).toNat from (by rw [List.length_take]; have h_ : ((ji6) : Int) ≤ (l1.length : Int) := of_decide_eq_true (by first | (with_reducible assumption) | assumption); omega)] <;> rfl) | (rw [show (l0.take ((ji6) : Int).toNat).length = (ji6).toNat from (by rw [List.length_take]; have h_ : ((ji6) : Int) ≤ (l0.length : Int) := of_decide_eq_true (by first | (with_reducible assumption) | assumption); omega)] <;> rfl) | (rw [show (l1.take ((ji6) : Int).toNat).length = (ji6).toNat from (by rw [List.length_take]; have h_ : ((ji6) : Int) ≤ (l1.length : Int) := of_decide_eq_true (by first | (with_reducible assumption) | assumption); omega)] <;> rfl) | (simp only [hji6]; rfl) | rfl | (simp only [List.length_drop, List.length_take]; rfl)) ?_
          with_reducible refine (ub_.calls kj2 _ _ (l0.take ((ji6) : Int).toNat) _ _ (l1.take ((ji6) : Int).toNat) t415 _ ?side1 ?side2 ?side3 ?side4 A19.out).mono ?_
          (case side1 => repeat (first | exact (Kd.ie_ HR413.out (by repeat (first | (with_reducible first | exact HB.out | apply fa_ | apply ca_ | apply ga_) | exact HB.out))) | (with_reducible refine Kd.yb_ ?_ _) | (with_reducible refine Kd.zb_ ?_ _) | (with_reducible refine Kd.jc_ ?_)))
          (case side2 => exact HC413.out)
          (case side3 => repeat (first | exact (Kd.ie_ HR414.out (by repeat (first | (with_reducible first | exact HB.out | apply fa_ | apply ca_ | apply ga_) | exact HB.out))) | (with_reducible refine Kd.yb_ ?_ _) | (with_reducible refine Kd.zb_ ?_ _) | (with_reducible refine Kd.jc_ ?_)))
          (case side4 => exact HC414.out)
          rintro e w' ⟨rfl, ⟨nd, rfl⟩⟩
          refine ⟨_, rfl, ?_⟩
          refine hK.out _ _ trivial (fun hHeld => ?_)
          clear hK K
          refine ej_ (a' := ?_) ?_ ?_
          rotate_left
          ·show Act.put _ (some 40) _ = _
           simp only [Act.put, List.setIfInBounds_toArray, List.set_cons_zero, List.set_cons_succ, gc_, lc_]
           rfl
          refine id_ (i := 22) (N := some 41) (v := ?_) (a' := ?_) #[true, true, true, true, true, true, true, true, true, true, true, true, true, true, true, true, true, true, true, true, true, true, true, false, false, false, false, false, false, false, false, false, false, false] rfl rfl (td_ HT_.out (by kernel_rfl)) (fun _ _ _ h => h) (Or.inl ⟨by rfl, ?_⟩) ?_ ?_
          rotate_left
          ·intro w'
           go_simp
           with_reducible rfl
          rotate_left
          ·simp only [Act.put, List.setIfInBounds_toArray, List.set_cons_zero, List.set_cons_succ, gc_, lc_]
           rfl
          refine id_ (i := 23) (N := some 42) (v := ?_) (a' := ?_) #[true, true, true, true, true, true, true, true, true, true, true, true, true, true, true, true, true, true, true, true, true, true, true, true, false, false, false, false, false, false, false, false, false, false] rfl rfl (td_ HT_.out (by kernel_rfl)) (fun _ _ _ h => h) (Or.inl ⟨by rfl, ?_⟩) ?_ ?_
          rotate_left
          ·intro w'
           go_simp
           with_reducible rfl
          rotate_left
          ·simp only [Act.put, List.setIfInBounds_toArray, List.set_cons_zero, List.set_cons_succ, gc_, lc_]
           rfl
          refine id_ (i := 24) (N := some 43) (v := ?_) (a' := ?_) #[true, true, true, true, true, true, true, true, true, true, true, true, true, true, true, true, true, true, true, true, true, true, true, true, true, false, false, false, false, false, false, false, false, false] rfl rfl (td_ HT_.out (by kernel_rfl)) (fun _ _ _ h => h) (Or.inl ⟨by rfl, ?_⟩) ?_ ?_
          rotate_left
          ·intro w'
           go_simp
           with_reducible rfl
          rotate_left
          ·simp only [Act.put, List.setIfInBounds_toArray, List.set_cons_zero, List.set_cons_succ, gc_, lc_]
           rfl
          refine id_ (i := 25) (N := some 44) (v := ?_) (a' := ?_) #[true, true, true, true, true, true, true, true, true, true, true, true, true, true, true, true, true, true, true, true, true, true, true, true, true, true, false, false, false, false, false, false, false, false] rfl rfl (td_ HT_.out (by kernel_rfl)) (fun _ _ _ h => h) (Or.inl ⟨by rfl, ?_⟩) ?_ ?_
          rotate_left
          ·intro w'
           go_simp
           with_reducible rfl
          rotate_left
          ·simp only [Act.put, List.setIfInBounds_toArray, List.set_cons_zero, List.set_cons_succ, gc_, lc_]
           rfl
          refine id_ (i := 26) (N := some 45) (v := ?_) (a' := ?_) #[true, true, true, true, true, true, true, true, true, true, true, true, true, true, true, true, true, true, true, true, true, true, true, true, true, true, true, false, false, false, false, false, false, false] rfl rfl (td_ HT_.out (by kernel_rfl)) (fun _ _ _ h => h) (Or.inl ⟨by rfl, ?_⟩) ?_ ?_
          rotate_left
          ·intro w'
           go_simp
           with_reducible rfl
          rotate_left
          ·simp only [Act.put, List.setIfInBounds_toArray, List.set_cons_zero, List.set_cons_succ, gc_, lc_]
           rfl
          refine one_ (i := 27) (N := some 46) #[true, true, true, true, true, true, true, true, true, true, true, true, true, true, true, true, true, true, true, true, true, true, true, true, true, true, true, true, false, false, false, false, false, false] rfl rfl (ah_ HT_.out (by kernel_rfl)) (by decide) (fun K hK => ?_)
          refine bk_ Try.func36 (by kernel_rfl) rfl #[.slice A0 l0.length c0, .slice A0 l0.length c0] (by rfl) rfl rfl (by (try simp only [List.map_toArray, List.map_cons, List.map_nil]); first | done | rfl | (simp only [List.length_drop, List.length_take]; rfl)) ?_
          with_reducible refine (tb_.calls kj2 _ _ l0 _ _ l0 t416 _ ?side1 ?side2 ?side3 ?side4 A21.out).mono ?_
          (case side1 => repeat (first | exact (Kd.ie_ HR0.out (by repeat (first | (with_reducible first | exact HB.out | apply fa_ | apply ca_ | apply ga_) | exact HB.out))) | (with_reducible refine Kd.yb_ ?_ _) | (with_reducible refine Kd.zb_ ?_ _) | (with_reducible refine Kd.jc_ ?_)))
          (case side2 => exact HC0.out)
          (case side3 => repeat (first | exact (Kd.ie_ HR0.out (by repeat (first | (with_reducible first | exact HB.out | apply fa_ | apply ca_ | apply ga_) | exact HB.out))) | (with_reducible refine Kd.yb_ ?_ _) | (with_reducible refine Kd.zb_ ?_ _) | (with_reducible refine Kd.jc_ ?_)))
          (case side4 => exact HC0.out)
          rintro e w' ⟨rfl, ⟨nd, rfl⟩⟩
          refine ⟨_, rfl, ?_⟩
          refine hK.out _ _ trivial (fun hHeld => ?_)
          clear hK K
          refine ej_ (a' := ?_) ?_ ?_
          rotate_left
          ·show Act.put _ (some 46) _ = _
           simp only [Act.put, List.setIfInBounds_toArray, List.set_cons_zero, List.set_cons_succ, gc_, lc_]
           rfl
          refine id_ (i := 28) (N := some 47) (v := ?_) (a' := ?_) #[true, true, true, true, true, true, true, true, true, true, true, true, true, true, true, true, true, true, true, true, true, true, true, true, true, true, true, true, true, false, false, false, false, false] rfl rfl (td_ HT_.out (by kernel_rfl)) (fun _ _ _ h => h) (Or.inl ⟨by rfl, ?_⟩) ?_ ?_
          rotate_left
          ·intro w'
           go_simp
           with_reducible rfl
          rotate_left
          ·simp only [Act.put, List.setIfInBounds_toArray, List.set_cons_zero, List.set_cons_succ, gc_, lc_]
           rfl
          refine id_ (i := 29) (N := some 48) (v := ?_) (a' := ?_) #[true, true, true, true, true, true, true, true, true, true, true, true, true, true, true, true, true, true, true, true, true, true, true, true, true, true, true, true, true, true, false, false, false, false] rfl rfl (td_ HT_.out (by kernel_rfl)) (fun _ _ _ h => h) (Or.inl ⟨by rfl, ?_⟩) ?_ ?_
          rotate_left
          ·intro w'
           go_simp
           with_reducible rfl
          rotate_left
          ·simp only [Act.put, List.setIfInBounds_toArray, List.set_cons_zero, List.set_cons_succ, gc_, lc_]
           rfl
          refine id_ (i := 30) (N := some 49) (v := ?_) (a' := ?_) #[true, true, true, true, true, true, true, true, true, true, true, true, true, true, true, true, true, true, true, true, true, true, true, true, true, true, true, true, true, true, true, false, false, false] rfl rfl (td_ HT_.out (by kernel_rfl)) (fun _ _ _ h => h) (Or.inl ⟨by rfl, ?_⟩) ?_ ?_
          rotate_left
          ·intro w'
           go_simp
           with_reducible rfl
          rotate_left
          ·simp only [Act.put, List.setIfInBounds_toArray, List.set_cons_zero, List.set_cons_succ, gc_, lc_]
           rfl
          refine one_ (i := 31) (N := some 50) #[true, true, true, true, true, true, true, true, true, true, true, true, true, true, true, true, true, true, true, true, true, true, true, true, true, true, true, true, true, true, true, true, false, false] rfl rfl (ah_ HT_.out (by kernel_rfl)) (by decide) (fun K hK => ?_)
          refine bk_ Try.func19 (by kernel_rfl) rfl #[] (by rfl) rfl rfl (by (try simp only [List.map_toArray, List.map_cons, List.map_nil]); first | done | rfl | (simp only [List.length_drop, List.length_take]; rfl)) ?_
          with_reducible refine (ha_.calls kj2  t417 _ A23.out HRT.out).mono ?_
          rintro e w29 ⟨rfl, hb⟩
          refine ⟨_, rfl, ?_⟩
          have n0_ := ba_.mk (gb_ (by repeat (first | (with_reducible first | exact HB.out | apply fa_ | apply ca_ | apply ga_) | exact HB.out)) hb)
          clear HB
          have HB := n0_
          clear n0_
          (try clear hb)
          (try clear hb2)
          (try clear hk)
          (try clear hi)
          refine hK.out _ _ trivial (fun hHeld => ?_)
          clear hK K
          refine ej_ (a' := ?_) ?_ ?_
          rotate_left
          ·show Act.put _ (some 50) _ = _
           simp only [Act.put, List.setIfInBounds_toArray, List.set_cons_zero, List.set_cons_succ, gc_, lc_]
           rfl
          refine id_ (i := 32) (N := some 51) (v := ?_) (a' := ?_) #[true, true, true, true, true, true, true, true, true, true, true, true, true, true, true, true, true, true, true, true, true, true, true, true, true, true, true, true, true, true, true, true, true, false] rfl rfl (td_ HT_.out (by kernel_rfl)) (fun _ _ _ h => h) (Or.inl ⟨by rfl, ?_⟩) ?_ ?_
          rotate_left
          ·intro w'
           go_simp
           with_reducible rfl
          rotate_left
          ·simp only [Act.put, List.setIfInBounds_toArray, List.set_cons_zero, List.set_cons_succ, gc_, lc_]
           rfl
          refine id_ (i := 33) (N := some 4) (v := ?_) (a' := ?_) #[true, true, true, true, true, true, true, true, true, true, true, true, true, true, true, true, true, true, true, true, true, true, true, true, true, true, true, true, true, true, true, true, true, true] rfl rfl (td_ HT_.out (by kernel_rfl)) (fun _ _ _ h => h) (Or.inl ⟨by rfl, ?_⟩) ?_ ?_
          rotate_left
          ·intro w'
           go_simp
           with_reducible rfl
          rotate_left
          ·simp only [Act.put, List.setIfInBounds_toArray, List.set_cons_zero, List.set_cons_succ, gc_, lc_]
           rfl
          refine ik_ (jk_ HT_.out (by kernel_rfl)) ?_
          try go_wp2
          go_ret
          exact ⟨by first | rfl | (simp [bb_, cb_] <;> rfl) | (simp only [← hji6]; first | rfl | (simp [bb_, cb_] <;> rfl)) | (simp [*, bb_, cb_] <;> rfl), by repeat (first | (with_reducible first | exact HB.out | apply fa_ | apply ca_ | apply ga_) | exact HB.out)⟩
         ·rw [if_neg c22] at H
          have c22b0 : (t416 == 0) = false := beq_eq_false_iff_ne.mpr c22
          have c22b1 : (t416 != 0) = true := bne_iff_ne.mpr c22
          exact absurd ((Option.some.inj H).trans HRT.out) (by decide)
        ·rw [if_neg c20] at H
         have c20b0 : (t412 == t415) = false := beq_eq_false_iff_ne.mpr c20
         have c20b1 : (t412 != t415) = true := bne_iff_ne.mpr c20
         exact absurd ((Option.some.inj H).trans HRT.out) (by decide)
       ·rw [if_neg c13] at H
        exact absurd H (by simp)
      ·rw [if_neg c11] at H
       exact absurd H (by simp)
     ·rw [if_neg c10] at H
      exact absurd H (by simp)
    ·rw [if_neg c9] at H
     have c9b0 : (t408 == t409) = false := beq_eq_false_iff_ne.mpr c9
     have c9b1 : (t408 != t409) = true := bne_iff_ne.mpr c9
     exact absurd ((Option.some.inj H).trans HRT.out) (by decide)
def nb_.Pure : Prop := ∀ (l0 : List Int) (l1 : List Int), l0.length ≤ maxLen → l0.length * 8 ≤ 140737488351232 → (∀ x ∈ l0, (Lit.int .i64 x).wf = true) → l1.length ≤ maxLen → l1.length * 8 ≤ 140737488351232 → (∀ x ∈ l1, (Lit.int .i64 x).wf = true) → ∃ k, nb_.f k l0 l1 = some true
theorem nb_.walk (P : nb_.Pure) (a0 : Option Addr) (len0 cap0 : Nat) (z0 : List Int) (a1 : Option Addr) (len1 cap1 : Nat) (z1 : List Int) (w : World) (w0 : (a0 = none ∧ len0 = 0 ∧ cap0 = 0 ∧ z0 = []) ∨ ∃ x, a0 = some x ∧ len0 ≤ cap0 ∧ cap0 ≤ maxLen ∧ z0.length = cap0 ∧ (∀ i, i < z0.length → w.cell? (x.add i) = some (.int .i64 (z0.getD i 0))) ∧ ∀ n ∈ z0, (Lit.int .i64 n).wf = true) (y0 : len0 * 8 ≤ 140737488351232) (w1 : (a1 = none ∧ len1 = 0 ∧ cap1 = 0 ∧ z1 = []) ∨ ∃ x, a1 = some x ∧ len1 ≤ cap1 ∧ cap1 ≤ maxLen ∧ z1.length = cap1 ∧ (∀ i, i < z1.length → w.cell? (x.add i) = some (.int .i64 (z1.getD i 0))) ∧ ∀ n ∈ z1, (Lit.int .i64 n).wf = true) (y1 : len1 * 8 ≤ 140737488351232) :
  Calls Try.prog 13 #[.slice a0 len0 cap0, .slice a1 len1 cap1] w fun e w' => e = .returned (.bool true) ∧ Below w.heap.size w w' := by
 obtain ⟨l0, rfl, hr0, hm0, hw0, hc0⟩ := le_.vk_ w0
 obtain ⟨l1, rfl, hr1, hm1, hw1, hc1⟩ := le_.vk_ w1
 obtain ⟨k, h⟩ := P l0 l1 hm0 y0 hw0 hm1 y1 hw1
 refine (nb_.calls k _ _ l0 _ _ l1 true w (Kd.ue_ (d := (0 : Int)) (h1 := fun _ => rfl) hr0) hc0 (Kd.ue_ (d := (0 : Int)) (h1 := fun _ => rfl) hr1) hc1 h rfl).mono ?_
 rintro e w' ⟨rfl, hd⟩
 exact ⟨rfl, hd⟩
end Go.Proofs.Ytpkhgapifnjbeaa.Y
end
section
namespace Go.Proofs.Ytpkhgapifnjbeaa.Pure
set_option linter.unusedVariables false
set_option linter.unusedSimpArgs false
open Go.RowKit Go.Proofs.Ytpkhgapifnjbeaa.Y Go.Proofs.YtpkhgapifnjbeaaW.PrintWords Go.Proofs.YtpkhgapifnjbeaaW.PrintLast Go.Proofs.YtpkhgapifnjbeaaW.PrintMore Go.Proofs.Ytpkhgapifnjbeaa.G Go.Proofs.Ytpkhgapifnjbeaa.Rs
theorem tg_ (a b : List Int) (hl : a.length = b.length) (h : a.length ≤ 1000) : ∀ (d i k : Nat), i + d = a.length → d < k → (∀ j, j < i → a.getD j 0 = b.getD j 0) → aa_.l0 k a b (i : Int) = some (decide (a = b)) := by
 intro d
 induction d with
 | zero =>
  intro i k hi hk hz
  obtain ⟨k, rfl⟩ : ∃ m, k = m + 1 := ⟨k - 1, by omega⟩
  simp only [aa_.l0]
  rw [if_neg (by omega)]
  have : a = b := List.ext_getElem hl fun j h1 h2 => by
   have := hz j (by omega)
   rwa [List.getD_eq_getElem?_getD, List.getD_eq_getElem?_getD, List.getElem?_eq_getElem h1, List.getElem?_eq_getElem h2] at this
  rw [decide_eq_true this]
 | succ d ih =>
  intro i k hi hk hz
  obtain ⟨k, rfl⟩ : ∃ m, k = m + 1 := ⟨k - 1, by omega⟩
  have hs : wrap64 ((i : Int) + 1) = ((i + 1 : Nat) : Int) := by unfold wrap64; omega
  simp only [aa_.l0]
  rw [if_pos (by omega), if_pos (by omega), if_pos (by omega), zd_, zd_, hs]
  by_cases e : a.getD i 0 = b.getD i 0
  ·rw [if_pos e]
   refine ih (i + 1) k (by omega) (by omega) fun j hj => ?_
   rcases Nat.lt_or_ge j i with h | h
   ·exact hz j h
   ·rw [show j = i from by omega]; exact e
  ·rw [if_neg e, decide_eq_false (fun q => e (by rw [q]))]
theorem rg_ (a b : List Int) (h : a.length ≤ 1000) (k : Nat) (hk : 1001 ≤ k) : aa_.f k a b = some (decide (a = b)) := by
 unfold aa_.f
 by_cases hl : a.length = b.length
 ·rw [if_pos (by omega)]
  exact tg_ a b hl h a.length 0 k (by omega) (by omega) (fun j hj => by omega)
 ·rw [if_neg (by omega), decide_eq_false (fun q => hl (by rw [q]))]
theorem ze_ : oe_ [3, 1] = true := by decide +kernel
theorem ki_ : mulI 16 2 = 5 := by decide +kernel
theorem inv2 : invI 2 = 18 := by decide +kernel
theorem pg_ (k : Nat) (hk : 1001 ≤ k) : ha_.f k = some true := by
 have e1 : ge_.f [3, 1] = some (encC [3, 1], 0) := by
  unfold ge_.f encS
  rw [if_pos (by decide), if_pos ze_]
 have e2 : je_.f (encC [3, 1]) = some ([3, 1], 0, 0) := by
  unfold je_.f
  rw [wj_ ze_]
 have e3 : ee_.f (encC [3, 1]) = some true := by unfold ee_.f; rw [xe_ ze_]
 have e4 : (encC [3, 1]).length = 8 := cf_ ze_
 have e5 := rg_ [3, 1] [3, 1] (by decide) k hk
 unfold ha_.f
 rw [e1]
 simp only [Option.bind_some]
 rw [e2]
 simp only [Option.bind_some, ud_.f, nc_.f, ki_, inv2, e3, e4, e5]
 simp
end Go.Proofs.Ytpkhgapifnjbeaa.Pure
end
section
namespace Go.Proofs.Ytpkhgapifnjbeaa.Y
open Go.RowKit Go.Proofs.Ytpkhgapifnjbeaa.G Go.Proofs.Ytpkhgapifnjbeaa.Rs Go.Proofs.YtpkhgapifnjbeaaW.PrintWords Go.Proofs.YtpkhgapifnjbeaaW.PrintLast Go.Proofs.YtpkhgapifnjbeaaW.PrintMore
attribute [local go_sem] dd_ fd_ rd_ sd_ uc_ vc_ ed_ gd_
set_option linter.unusedVariables false
set_option linter.unusedSimpArgs false
end Go.Proofs.Ytpkhgapifnjbeaa.Y
end
section
namespace Go.Proofs.Ytpkhgapifnjbeaa.Pure
set_option linter.unusedVariables false
set_option linter.unusedSimpArgs false
open Go.RowKit Go.Proofs.Ytpkhgapifnjbeaa.Y Go.Proofs.YtpkhgapifnjbeaaW.PrintWords Go.Proofs.YtpkhgapifnjbeaaW.PrintLast Go.Proofs.YtpkhgapifnjbeaaW.PrintMore Go.Proofs.Ytpkhgapifnjbeaa.G Go.Proofs.Ytpkhgapifnjbeaa.Rs
def dsN (a b : List Int) : Nat → Nat
 | 0 => 0
 | m + 1 => dsN a b m + if a.getD m 0 = b.getD m 0 then 0 else 1
theorem vv_ (a b : List Int) (m : Nat) : dsN a b m ≤ m := by
 induction m with
 | zero => exact Nat.le_refl _
 | succ m ih => simp only [dsN]; split <;> omega
theorem as_ (a : List Int) (m : Nat) : dsN a a m = 0 := by
 induction m with
 | zero => rfl
 | succ m ih => simp only [dsN, ih, if_true]
theorem iu_ (a b : List Int) (hl : a.length = b.length) (hn : a.length ≤ 1000) : ∀ (d i k : Nat), i + d = a.length → d < k → tb_.l0 k a b ((dsN a b i : Nat) : Int) (a.length : Int) (i : Int) = some ((dsN a b a.length : Nat) : Int) := by
 intro d
 induction d with
 | zero =>
  intro i k hi hk
  obtain ⟨k, rfl⟩ : ∃ m, k = m + 1 := ⟨k - 1, by omega⟩
  simp only [tb_.l0]
  rw [if_neg (by omega), show i = a.length from by omega]
 | succ d ih =>
  intro i k hi hk
  obtain ⟨k, rfl⟩ : ∃ m, k = m + 1 := ⟨k - 1, by omega⟩
  have hi1 : wrap64 ((i : Int) + 1) = ((i + 1 : Nat) : Int) := by unfold wrap64; omega
  have hle := vv_ a b i
  have g := ih (i + 1) k (by omega) (by omega)
  simp only [dsN] at g
  simp only [tb_.l0]
  rw [if_pos (by omega), if_pos (by omega), if_pos (by omega), if_pos (by omega), zd_, zd_, hi1]
  by_cases h : a.getD i 0 = b.getD i 0
  ·rw [if_pos h] at g ⊢
   exact g
  ·rw [if_neg h] at g ⊢
   rw [show wrap64 (((dsN a b i : Nat) : Int) + 1) = ((dsN a b i + 1 : Nat) : Int) from by unfold wrap64; omega]
   exact g
theorem ws_ (a b : List Int) (hn : a.length ≤ 1000) (k : Nat) (hk : 1001 ≤ k) : tb_.f k a b = some (if a.length = b.length then ((dsN a b a.length : Nat) : Int) else -1) := by
 unfold tb_.f
 by_cases hl : a.length = b.length
 ·rw [if_pos (by omega), if_pos hl]
  exact iu_ a b hl hn a.length 0 k (by omega) (by omega)
 ·rw [if_neg (by omega), if_neg hl]
end Go.Proofs.Ytpkhgapifnjbeaa.Pure
end
section
namespace Go.Proofs.Ytpkhgapifnjbeaa.Pure
set_option linter.unusedVariables false
set_option linter.unusedSimpArgs false
open Go.RowKit Go.Proofs.Ytpkhgapifnjbeaa.Y Go.Proofs.YtpkhgapifnjbeaaW.PrintWords Go.Proofs.YtpkhgapifnjbeaaW.PrintLast Go.Proofs.YtpkhgapifnjbeaaW.PrintMore Go.Proofs.Ytpkhgapifnjbeaa.G Go.Proofs.Ytpkhgapifnjbeaa.Rs
theorem ub1_ (a b : List Int) (hl : a.length = b.length) (hn : a.length ≤ 1000) : ∀ (d i k : Nat), i + d = a.length → d < k → ub_.l0 k a b ((dsN a b i : Nat) : Int) (i : Int) = some ((dsN a b a.length : Nat) : Int) := by
 intro d
 induction d with
 | zero =>
  intro i k hi hk
  obtain ⟨k, rfl⟩ : ∃ m, k = m + 1 := ⟨k - 1, by omega⟩
  simp only [ub_.l0]
  rw [if_neg (by omega), show i = a.length from by omega]
 | succ d ih =>
  intro i k hi hk
  obtain ⟨k, rfl⟩ : ∃ m, k = m + 1 := ⟨k - 1, by omega⟩
  have hi1 : wrap64 ((i : Int) + 1) = ((i + 1 : Nat) : Int) := by unfold wrap64; omega
  have hle := vv_ a b i
  have g := ih (i + 1) k (by omega) (by omega)
  simp only [dsN] at g
  simp only [ub_.l0]
  rw [if_pos (by omega), if_pos (by omega), if_pos (by omega), zd_, zd_, hi1]
  by_cases h : a.getD i 0 = b.getD i 0
  ·rw [if_pos h] at g ⊢
   exact g
  ·rw [if_neg h] at g ⊢
   rw [show wrap64 (((dsN a b i : Nat) : Int) + 1) = ((dsN a b i + 1 : Nat) : Int) from by unfold wrap64; omega]
   exact g
theorem zz_ (a b : List Int) (hn : a.length ≤ 1000) (k : Nat) (hk : 1001 ≤ k) : ub_.f k a b = some (if a.length = b.length then ((dsN a b a.length : Nat) : Int) else -1) := by
 unfold ub_.f
 by_cases hl : a.length = b.length
 ·rw [if_pos (by omega), if_pos hl]
  exact ub1_ a b hl hn a.length 0 k (by omega) (by omega)
 ·rw [if_neg (by omega), if_neg hl]
theorem ap_ : nb_.Pure := by
 intro a b _ _ _ _ _ _
 refine ⟨1100, ?_⟩
 have hmn : mn (a.length : Int) (b.length : Int) = ((min a.length b.length : Nat) : Int) := by unfold mn; omega
 have j : ∀ c : Bool, (c = false → a.length ≤ 200 ∧ b.length ≤ 200) → nb_.j0 1100 a b c = some true := by
  intro c hc
  simp only [nb_.j0]
  cases c with
  | true => rw [if_pos rfl]
  | false =>
   obtain ⟨h1, h2⟩ := hc rfl
   rw [if_neg (by simp), hmn, Int.toNat_natCast, ws_ a b (by omega) 1099 (by omega), zz_ a b (by omega) 1099 (by omega)]
   simp only [Option.bind_some, if_true]
   rw [if_pos (by omega), if_pos (by omega), if_pos (by omega)]
   rw [ws_ (a.take _) (b.take _) (by rw [List.length_take]; omega) 1099 (by omega), zz_ (a.take _) (b.take _) (by rw [List.length_take]; omega) 1099 (by omega), ws_ a a (by omega) 1099 (by omega)]
   simp only [Option.bind_some, if_true]
   rw [as_, pg_ 1099 (by omega)]; rfl
 unfold nb_.f
 by_cases h : (a.length : Int) > 200
 ·rw [if_pos h]; exact j true (fun q => by cases q)
 ·rw [if_neg h]
  refine j _ fun q => ?_
  have := of_decide_eq_false q
  omega
end Go.Proofs.Ytpkhgapifnjbeaa.Pure
end
section
namespace Go.Proofs.Ytpkhgapifnjbeaa.rscodeDistances
open Go.ChangeShapes Go.WideShapes Go.ChangeAt Go.RowKit
open Go.ChangeMaps (open_string shut_string)
set_option linter.unusedVariables false
theorem own : ownKnob Try.prog.godebug = none := by kernel_rfl
theorem laidOut : laidOutB Try.prog = true := by kernel_rfl
def gk_ (k : IntKind) (w : World) (a : Option Addr) (len cap : Nat) (zs : List Int) : Prop :=
 (a = none ∧ len = 0 ∧ cap = 0 ∧ zs = []) ∨
 ∃ x, a = some x ∧ len ≤ cap ∧ cap ≤ maxLen ∧ zs.length = cap ∧ (∀ i, i < zs.length → w.cell? (x.add i) = some (.int k (zs.getD i 0))) ∧ ∀ n ∈ zs, (Lit.int k n).wf = true
set_option maxRecDepth 100000 in
theorem lifted (os : Os) (started : os.Started) (H : Type) (enc : TypeId × Value → H) :
  ReturnsInHanded {} Try.checked os 13 .any (Rows.rscodeDistancesSpec.pre6 enc Try.prog Try.f13 Rows.rscodeDistancesRow.domain false) (Rows.rscodeDistancesSpec.post enc Try.prog Try.f13 false true false false) := by
 refine returnsInHanded_of_change_sized (C := Try.checked) own started (by kernel_rfl) Try.func13
  (ChangeSpec.witness6 (enc := enc) (C := Try.checked) false ⟨#[], #[.slice none 0 0, .slice none 0 0], []⟩ 8 (by kernel_rfl) (by kernel_rfl) (by kernel_rfl) (by kernel_rfl)) ?_
 intro W base args ds gs before hval0 hW hcnd hsz0 _
 have hsz : (DataW.weightsEach Try.prog (Try.f13.params.toList ++ Rows.rscodeDistancesSpec.plain.varTypes Try.prog) (ds ++ gs)).all (· ≤ reachBytes) = true := hsz0
 have hval : ∀ (j : Nat) t v, Try.f13.params[j]? = some t → args[j]? = some v → Value.okWide Try.prog W .any base t v := hval0
 have hW' := hW
 obtain ⟨p, q, hA0, hV, rfl, hfz, hnd⟩ := hW
 have hA : DataW.TrodAll enc Try.prog W 0 (fun _ => true) true Try.f13.params.toList args.toList ds p := hA0
 rw [Try.params13] at hA hval hsz
 obtain ⟨v0, vs0, d0, ds0, p0, q0, hargs, rfl, rfl, h0, r0⟩ := trodAll_cons hA
 obtain ⟨v1, vs1, d1, ds1, p1, q1, rfl, rfl, rfl, h1, r1⟩ := trodAll_cons r0
 obtain ⟨rfl, rfl, rfl⟩ := trodAll_nil r1
 obtain rfl : args = #[v0, v1] := by cases args; simp_all
 obtain ⟨rfl, rfl⟩ := trodVars_none hV
 obtain ⟨a0, len0, cap0, rfl⟩ := okWide_slice Try.underlying27 (hval 0 27 v0 rfl rfl)
 have k0 := h0
 have lt0 : ∀ x ∈ p0, x.block < W.heap.size := by obtain ⟨m, hm⟩ := k0; exact DataW.trod_lt m _ _ _ hm
 obtain ⟨z0, w0⟩ : ∃ zs, gk_ .i64 W a0 len0 cap0 zs := by
  obtain ⟨fuel, hf⟩ := h0
  rcases open_ints Try.underlying27 Try.underlying3 (by kernel_rfl) hf with ⟨hcs, _⟩ | ⟨x, l, c, zs, hcs, _, hl, hm, hz, _, hcell, hwz⟩
  ·simp [Value.cells] at hcs
   obtain ⟨rfl, rfl, rfl⟩ := hcs
   exact ⟨[], .inl ⟨rfl, rfl, rfl, rfl⟩⟩
  ·simp [Value.cells] at hcs
   obtain ⟨rfl, rfl, rfl⟩ := hcs
   exact ⟨zs, .inr ⟨_, rfl, hl, hm, by simpa using hz, hcell, hwz⟩⟩
 have y0 : len0 * 8 ≤ 140737488351232 := Go.Proofs.YtpkhgapifnjbeaaW.PrintWords.dg_ hsz (j := 0) (t := 27) rfl rfl Try.underlying27 Try.underlying3 (by kernel_rfl) (by kernel_rfl) h0
 obtain ⟨a1, len1, cap1, rfl⟩ := okWide_slice Try.underlying27 (hval 1 27 v1 rfl rfl)
 have k1 := h1
 have lt1 : ∀ x ∈ p1, x.block < W.heap.size := by obtain ⟨m, hm⟩ := k1; exact DataW.trod_lt m _ _ _ hm
 obtain ⟨z1, w1⟩ : ∃ zs, gk_ .i64 W a1 len1 cap1 zs := by
  obtain ⟨fuel, hf⟩ := h1
  rcases open_ints Try.underlying27 Try.underlying3 (by kernel_rfl) hf with ⟨hcs, _⟩ | ⟨x, l, c, zs, hcs, _, hl, hm, hz, _, hcell, hwz⟩
  ·simp [Value.cells] at hcs
   obtain ⟨rfl, rfl, rfl⟩ := hcs
   exact ⟨[], .inl ⟨rfl, rfl, rfl, rfl⟩⟩
  ·simp [Value.cells] at hcs
   obtain ⟨rfl, rfl, rfl⟩ := hcs
   exact ⟨zs, .inr ⟨_, rfl, hl, hm, by simpa using hz, hcell, hwz⟩⟩
 have y1 : len1 * 8 ≤ 140737488351232 := Go.Proofs.YtpkhgapifnjbeaaW.PrintWords.dg_ hsz (j := 1) (t := 27) rfl rfl Try.underlying27 Try.underlying3 (by kernel_rfl) (by kernel_rfl) h1
 clear hA0 hval0 hsz0 hsz
 refine (Y.nb_.walk Pure.ap_ a0 len0 cap0 z0 a1 len1 cap1 z1 W w0 y0 w1 y1).mono fun e W' ⟨he, bel⟩ => ?_
 subst he
 exact ⟨_, rfl, _, _, _, [], _, [], hW', trodAll_mk1 (shut_bool Try.underlying4 _), (trodAll_cons_mk (Below.trod laidOut (by kernel_rfl) (of_decide_eq_true (by kernel_rfl)) k0 bel lt0) (trodAll_cons_mk (Below.trod laidOut (by kernel_rfl) (of_decide_eq_true (by kernel_rfl)) k1 bel lt1) trodAll_mk0)), rfl, bel.frame _, fun h => by cases h⟩
theorem over : Rows.rscodeDistancesRow.holds Try.pinned (OpenSpec.ofChange Rows.rscodeDistancesSpec) :=
 OpenClaim.holds_of_wide 13 Try.f13 rfl rfl rfl rfl rfl rfl rfl ⟨rfl, rfl, rfl, rfl, rfl⟩ rfl rfl rfl rfl rfl (by kernel_rfl) Try.func13 (by kernel_rfl)
  (of_decide_eq_true (by kernel_rfl)) (by unfold Func.isWrapper; first | (rw [if_pos (by decide +kernel)]; kernel_rfl) | (rw [if_neg (by decide +kernel)]; exact ⟨rfl, rfl⟩))
  (fun os started H enc _ => lifted os started H enc)
theorem proved : Rows.RscodeDistancesSaid := over
end Go.Proofs.Ytpkhgapifnjbeaa.rscodeDistances
namespace Go.Proofs.Ytpkhgapifnjbeaa
theorem rscodeDistances_holds : Rows.RscodeDistancesSaid := rscodeDistances.proved
end Go.Proofs.Ytpkhgapifnjbeaa
end
