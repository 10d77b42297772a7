/- A part of the proof of one statement (texts put together by pack.py of this claim's repo). -/
import Derived.Test.YtpkhgapifnjbeaaProg
import Derived.Below
import Derived.Deep.Draws
import Derived.Deep.AppendLies
import Derived.Maps.AppendAt
import Derived.OwnWalk
import Derived.Laws.BytesArg
import Derived.Laws.MakeOwn
import Derived.Laws.OwnMore
import Derived.Deep.OwnRows
import Derived.Tactics
import Derived.Lib.ConvBytes
import Derived.Laws.Slices
import Derived.WalkKit
import Derived.KernelRfl
import Derived.RowKit3
import Derived.Deep.LoopGhost
import Derived.Deep.QuietTactic
import Derived.BigQuiet
import Derived.WideLaws
import Derived.Deep.DeepCutAuto
import Derived.Deep.CutBlock
import Derived.Deep.RegionHeld3
import Derived.Laws.Rows
import Derived.Lib.AppendStr
import Derived.ArgAppend
import Derived.Laws.IdiomCopy
import Derived.OrdersHeld
import Derived.Laws.BitsLemmas
import Derived.RowKit
import Derived.Laws.CopyOwn
import Derived.Outline
import Derived.LoopTactic
import Derived.Test.YtpkhgapifnjbeaaPk3
section
namespace Go.Proofs.Ytpkhgapifnjbeaa.R
open Go.RowKit Go.Proofs.Ytpkhgapifnjbeaa.G Go.Proofs.Ytpkhgapifnjbeaa.Rs Go.Proofs.YtpkhgapifnjbeaaW.PrintWords Go.Proofs.YtpkhgapifnjbeaaW.PrintLast Go.Proofs.YtpkhgapifnjbeaaW.PrintMore
attribute [local go_sem] max2_int min2_int max_two min_two max_three min_three max_four min_four
set_option linter.unusedVariables false
set_option linter.unusedSimpArgs false
def bits_Mul64.f (a0 : Int) (a1 : Int) : Option (Int × Int) := some (IntKind.u64.wrap ((IntKind.u64.wrap ((IntKind.u64.wrap ((a0 / 4294967296) * (a1 / 4294967296))) + ((IntKind.u64.wrap ((IntKind.u64.wrap ((a0 / 4294967296) * (Go.bits .and .u64 a1 4294967295))) + ((IntKind.u64.wrap ((Go.bits .and .u64 a0 4294967295) * (Go.bits .and .u64 a1 4294967295))) / 4294967296))) / 4294967296))) + ((IntKind.u64.wrap ((Go.bits .and .u64 (IntKind.u64.wrap ((IntKind.u64.wrap ((a0 / 4294967296) * (Go.bits .and .u64 a1 4294967295))) + ((IntKind.u64.wrap ((Go.bits .and .u64 a0 4294967295) * (Go.bits .and .u64 a1 4294967295))) / 4294967296))) 4294967295) + (IntKind.u64.wrap ((Go.bits .and .u64 a0 4294967295) * (a1 / 4294967296))))) / 4294967296)), IntKind.u64.wrap (a0 * a1))
set_option maxHeartbeats 8000000 in
set_option maxRecDepth 100000 in
theorem bits_Mul64.calls (a0 : Int) (a1 : Int) (r1 : Int) (r2 : Int) (w : World) (h : bits_Mul64.f a0 a1 = some (r1, r2)) :
    Calls Try.prog 68 #[.int .u64 a0, .int .u64 a1] w fun e w' => e = .returned (.tuple #[.int .u64 r1, .int .u64 r2]) ∧ Drawn0 w w' := by
  have H : (some (IntKind.u64.wrap ((IntKind.u64.wrap ((IntKind.u64.wrap ((a0 / 4294967296) * (a1 / 4294967296))) + ((IntKind.u64.wrap ((IntKind.u64.wrap ((a0 / 4294967296) * (Go.bits .and .u64 a1 4294967295))) + ((IntKind.u64.wrap ((Go.bits .and .u64 a0 4294967295) * (Go.bits .and .u64 a1 4294967295))) / 4294967296))) / 4294967296))) + ((IntKind.u64.wrap ((Go.bits .and .u64 (IntKind.u64.wrap ((IntKind.u64.wrap ((a0 / 4294967296) * (Go.bits .and .u64 a1 4294967295))) + ((IntKind.u64.wrap ((Go.bits .and .u64 a0 4294967295) * (Go.bits .and .u64 a1 4294967295))) / 4294967296))) 4294967295) + (IntKind.u64.wrap ((Go.bits .and .u64 a0 4294967295) * (a1 / 4294967296))))) / 4294967296)), IntKind.u64.wrap (a0 * a1))) = some (r1, r2) := h
  clear h
  simp only [Option.some.injEq, Prod.mk.injEq] at H
  obtain ⟨rfl, rfl⟩ := H
  go_enter Try.func68, Try.ntmps68
  go_wp2
  go_ret2
  exact ⟨by first | rfl | (simp; done) | (simp [*]; done), by repeat (first | exact Drawn0.refl _ | apply Drawn0.step)⟩
def bits_Mul.f (a0 : Int) (a1 : Int) : Option (Int × Int) := (bits_Mul64.f a0 a1).bind fun bt101 => (some (bt101.1, bt101.2))
set_option maxHeartbeats 8000000 in
set_option maxRecDepth 100000 in
theorem bits_Mul.calls (a0 : Int) (a1 : Int) (r1 : Int) (r2 : Int) (w : World) (h : bits_Mul.f a0 a1 = some (r1, r2)) :
    Calls Try.prog 58 #[.int .u64 a0, .int .u64 a1] w fun e w' => e = .returned (.tuple #[.int .u64 r1, .int .u64 r2]) ∧ Drawn0 w w' := by
  have H : ((bits_Mul64.f a0 a1).bind fun bt101 => (some (bt101.1, bt101.2))) = some (r1, r2) := h
  clear h
  replace H := Option.bind_eq_some_iff.mp H
  obtain ⟨⟨t101, t102⟩, A30, H⟩ := H
  replace H : (some (t101, t102)) = some (r1, r2) := H
  have A3 := Aside0.mk A30
  clear A30
  simp only [Option.some.injEq, Prod.mk.injEq] at H
  obtain ⟨rfl, rfl⟩ := H
  go_enter Try.func58, Try.ntmps58
  go_wp2_with (first | ((with_reducible refine gate_callee (f := 68) rfl ?_); refine goesL_ (some 25) rfl rfl Try.func68 (by kernel_rfl) rfl #[.int .u64 a0, .int .u64 a1] rfl (by (try simp only [List.map_toArray, List.map_cons, List.map_nil]); first | done | rfl | (simp only [List.length_drop, List.length_take]; rfl)) ?_; (with_reducible refine (bits_Mul64.calls a0 a1 t101 t102 _ A3.out).mono ?_); rintro e w' ⟨rfl, ⟨nd, rfl⟩⟩; refine ⟨_, rfl, ?_⟩))
  go_ret2
  exact ⟨by first | rfl | (simp; done) | (simp [*]; done), by repeat (first | exact Drawn0.refl _ | apply Drawn0.step)⟩
def awardingbodyref18_element.f (a0 : Int) : Option (Bool) := if a0 ≥ 0 then (some (decide (a0 < 32))) else (some false)
set_option maxHeartbeats 8000000 in
set_option maxRecDepth 100000 in
theorem awardingbodyref18_element.calls (a0 : Int) (r : Bool) (w : World) (h : awardingbodyref18_element.f a0 = some r) :
    Calls Try.prog 40 #[.int .i64 a0] w fun e w' => e = .returned (.bool r) ∧ Drawn0 w w' := by
  have H : (if a0 ≥ 0 then (some (decide (a0 < 32))) else (some false)) = some r := h
  clear h
  by_cases c2 : a0 ≥ 0
  · rw [if_pos c2] at H
    have c2b0 : decide (0 ≤ a0) = true := decide_eq_true c2
    clear c2
    obtain rfl := Option.some.inj H
    go_enter Try.func40, Try.ntmps40
    go_wp2
    go_ret
    exact ⟨by first | rfl | (simp; done) | (simp [*]; done), by repeat (first | exact Drawn0.refl _ | apply Drawn0.step)⟩
  · rw [if_neg c2] at H
    have c2b0 : decide (0 ≤ a0) = false := decide_eq_false c2
    clear c2
    obtain rfl := Option.some.inj H
    go_enter Try.func40, Try.ntmps40
    go_wp2
    go_ret
    exact ⟨by first | rfl | (simp; done) | (simp [*]; done), by repeat (first | exact Drawn0.refl _ | apply Drawn0.step)⟩
mutual
def awardingbodyref18_Fill.l0 : Nat → List Int → Int → List Int → Int → Option (List Int × Bool)
  | 0, _, _, _, _ => none
  | k + 1, x1, x6, x7, x8 => if x8 < (x1.length : Int) then (if 0 ≤ x8 then (if 0 ≤ (rd x1 x8) then (if (rd x1 x8) < (x7.length : Int) then (awardingbodyref18_Fill.l0 k x1 x6 (x7.set ((rd x1 x8) : Int).toNat 0) (wrap64 (x8 + 1))) else (none)) else (none)) else (none)) else (awardingbodyref18_Fill.l1 k x1 x6 x7 ([] : List (List Int)) 1)
def awardingbodyref18_Fill.l1 : Nat → List Int → Int → List Int → List (List Int) → Int → Option (List Int × Bool)
  | 0, _, _, _, _, _ => none
  | k + 1, x1, x6, x7, x9, x10 => if x10 ≤ 6 then (awardingbodyref18_Fill.l2 k x1 x6 x7 x9 x10 ([] : List Int) 0) else ((g_tail.f x7 x9 x1).bind fun bt110 => (some (bt110.1, bt110.2)))
def awardingbodyref18_Fill.l2 : Nat → List Int → Int → List Int → List (List Int) → Int → List Int → Int → Option (List Int × Bool)
  | 0, _, _, _, _, _, _, _ => none
  | k + 1, x1, x6, x7, x9, x10, x11, x12 => if x12 < (x1.length : Int) then (if 0 ≤ x12 then ((r_Power.f (wrap64 (x10 * (wrap64 ((wrap64 (x6 - 1)) - (rd x1 x12)))))).bind fun t115 => (if x11.length < 17592186044416 then (awardingbodyref18_Fill.l2 k x1 x6 x7 x9 x10 (x11 ++ [t115]) (wrap64 (x12 + 1))) else (none))) else (none)) else ((r_Syn.f x7 x10).bind fun t119 => (if x11.length < 17592186044416 then (if x9.length < 5864062014805 then (awardingbodyref18_Fill.l1 k x1 x6 x7 (x9 ++ [(x11 ++ [t119])]) (wrap64 (x10 + 1))) else (none)) else (none)))
end
def awardingbodyref18_Fill.f (k : Nat) (l0 : List Int) (l1 : List Int) : Option (List Int × Bool) := (g_Clone.f l0).bind fun t105 => (awardingbodyref18_Fill.l0 k l1 (l0.length : Int) t105 0)
theorem awardingbodyref18_Fill.mono_l : ∀ k, (∀ y0 y1 y2 y3, LeO (awardingbodyref18_Fill.l0 k y0 y1 y2 y3) (awardingbodyref18_Fill.l0 (k + 1) y0 y1 y2 y3)) ∧ (∀ y0 y1 y2 y3 y4, LeO (awardingbodyref18_Fill.l1 k y0 y1 y2 y3 y4) (awardingbodyref18_Fill.l1 (k + 1) y0 y1 y2 y3 y4)) ∧ (∀ y0 y1 y2 y3 y4 y5 y6, LeO (awardingbodyref18_Fill.l2 k y0 y1 y2 y3 y4 y5 y6) (awardingbodyref18_Fill.l2 (k + 1) y0 y1 y2 y3 y4 y5 y6))
  | 0 => ⟨fun _ _ _ _ r h => by simp [awardingbodyref18_Fill.l0] at h, fun _ _ _ _ _ r h => by simp [awardingbodyref18_Fill.l1] at h, fun _ _ _ _ _ _ _ r h => by simp [awardingbodyref18_Fill.l2] at h⟩
  | k + 1 => by
    obtain ⟨ih0, ih1, ih2⟩ := awardingbodyref18_Fill.mono_l k
    refine ⟨?_, ?_, ?_⟩
    · intro y0 y1 y2 y3
      unfold awardingbodyref18_Fill.l0
      repeat' first
      | (with_reducible exact ih0 _ _ _ _)
      | (with_reducible exact ih1 _ _ _ _ _)
      | (with_reducible exact ih2 _ _ _ _ _ _ _)
      | (with_reducible exact LeO.refl _)
      | (with_reducible exact LeO.none _)
      | (with_reducible refine LeO.ite ?_ ?_)
      | (with_reducible refine LeO.bind ?_ (fun _ => ?_))
      | exact ih0 _ _ _ _
      | exact ih1 _ _ _ _ _
      | exact ih2 _ _ _ _ _ _ _
      | exact LeO.none _
      | refine LeO.ite ?_ ?_
      | refine LeO.bind ?_ (fun _ => ?_)
    · intro y0 y1 y2 y3 y4
      unfold awardingbodyref18_Fill.l1
      repeat' first
      | (with_reducible exact ih0 _ _ _ _)
      | (with_reducible exact ih1 _ _ _ _ _)
      | (with_reducible exact ih2 _ _ _ _ _ _ _)
      | (with_reducible exact LeO.refl _)
      | (with_reducible exact LeO.none _)
      | (with_reducible refine LeO.ite ?_ ?_)
      | (with_reducible refine LeO.bind ?_ (fun _ => ?_))
      | exact ih0 _ _ _ _
      | exact ih1 _ _ _ _ _
      | exact ih2 _ _ _ _ _ _ _
      | exact LeO.none _
      | refine LeO.ite ?_ ?_
      | refine LeO.bind ?_ (fun _ => ?_)
    · intro y0 y1 y2 y3 y4 y5 y6
      unfold awardingbodyref18_Fill.l2
      repeat' first
      | (with_reducible exact ih0 _ _ _ _)
      | (with_reducible exact ih1 _ _ _ _ _)
      | (with_reducible exact ih2 _ _ _ _ _ _ _)
      | (with_reducible exact LeO.refl _)
      | (with_reducible exact LeO.none _)
      | (with_reducible refine LeO.ite ?_ ?_)
      | (with_reducible refine LeO.bind ?_ (fun _ => ?_))
      | exact ih0 _ _ _ _
      | exact ih1 _ _ _ _ _
      | exact ih2 _ _ _ _ _ _ _
      | exact LeO.none _
      | refine LeO.ite ?_ ?_
      | refine LeO.bind ?_ (fun _ => ?_)
theorem awardingbodyref18_Fill.mono : ∀ a0 a1 k, LeO (awardingbodyref18_Fill.f k a0 a1) (awardingbodyref18_Fill.f (k + 1) a0 a1) := by
  intro a0 a1 k
  obtain ⟨ih0, ih1, ih2⟩ := awardingbodyref18_Fill.mono_l k
  unfold awardingbodyref18_Fill.f
  repeat' first
      | (with_reducible exact ih0 _ _ _ _)
      | (with_reducible exact ih1 _ _ _ _ _)
      | (with_reducible exact ih2 _ _ _ _ _ _ _)
      | (with_reducible exact LeO.refl _)
      | (with_reducible exact LeO.none _)
      | (with_reducible refine LeO.ite ?_ ?_)
      | (with_reducible refine LeO.bind ?_ (fun _ => ?_))
      | exact ih0 _ _ _ _
      | exact ih1 _ _ _ _ _
      | exact ih2 _ _ _ _ _ _ _
      | exact LeO.none _
      | refine LeO.ite ?_ ?_
      | refine LeO.bind ?_ (fun _ => ?_)
set_option maxHeartbeats 8000000 in
set_option maxRecDepth 100000 in
theorem awardingbodyref18_Fill.calls (k : Nat) (A0 : Option Addr) (c0 : Nat) (l0 : List Int) (A1 : Option Addr) (c1 : Nat) (l1 : List Int) (r1 : List Int) (r2 : Bool) (w : World) (hr0 : Kd.C (Kd.int .i64) w A0 l0.length l0) (hc0 : l0.length ≤ c0) (hr1 : Kd.C (Kd.int .i64) w A1 l1.length l1) (hc1 : l1.length ≤ c1) (h : awardingbodyref18_Fill.f k l0 l1 = some (r1, r2)) :
    Calls Try.prog 48 #[.slice A0 l0.length c0, .slice A1 l1.length c1] w fun e w' => ∃ v0_ : Value, e = .returned (.tuple #[v0_, .bool r2]) ∧ Kd.R (Kd.int .i64) 3 w' w.heap.size (fun _ => True) v0_ r1 ∧ Below w.heap.size w w' := by
  have HR0 := Aside0.mk hr0
  have HC0 := Aside0.mk hc0
  clear hr0 hc0
  have HR1 := Aside0.mk hr1
  have HC1 := Aside0.mk hc1
  clear hr1 hc1
  have HB := Aside0.mk (Below.refl w.heap.size w)
  have H : ((g_Clone.f l0).bind fun t105 => (awardingbodyref18_Fill.l0 k l1 (l0.length : Int) t105 0)) = some (r1, r2) := h
  clear h
  replace H := Option.bind_eq_some_iff.mp H
  obtain ⟨t105, A30, H⟩ := H
  replace H : (awardingbodyref18_Fill.l0 k l1 (l0.length : Int) t105 0) = some (r1, r2) := H
  have A3 := Aside0.mk A30
  clear A30
  have H' := Aside0.mk H
  clear H
  go_enter Try.func48, Try.ntmps48
  have CF := Aside0.mk (clone_facts A3.out)
  go_wp2_with (first | ((with_reducible refine gate_dst (N := 25) rfl ?_); refine Kd.R_make (Kd.int .i64) w.heap.size 3 rfl (N := 25) rfl 27 _ _ rfl (l0.length : Int) rfl rfl Try.underlying27 (.int .i64 0) 8 (by kernel_rfl) rfl (by decide) (by omega) 0 (ok := fun _ => True) (okp := fun _ => True) rfl (fun _ hk => hk) trivial (by omega) (by have := CF.out.2; omega) HB.out (Nat.le_refl _) ?_; intro v119 w2 ho0 hb hg_ hnew_; clear hg_ hnew_; clear HB; have HB := Aside0.mk hb; rw [Int.toNat_natCast] at ho0; have HO106 := Aside0.mk ho0; clear ho0 hb) | ((with_reducible refine gate_dst (N := 28) rfl ?_); refine Kd.R_copy (0 : Int) w.heap.size rfl _ _ 27 27 3 rfl Try.underlying27 (by kernel_rfl) v119 _ l0 A0 l0.length c0 (fun _ => True) rfl rfl HO106.out (Kd.C_below HR0.out HB.out) HB.out (below_size HB.out) ?_; intro w3 ho0 hb hg_; clear hg_; clear HB HO106; have HB := Aside0.mk hb; rw [copy_all l0 l0.length rfl] at ho0; have HO107 := Aside0.mk (show Kd.R (Kd.int .i64) 3 w3 w.heap.size (fun _ => True) v119 t105 from by rw [CF.out.1]; exact ho0); clear ho0 hb; obtain ⟨Ao5, co5, eo5⟩ := Kd.R_slice HO107.out; subst eo5))
  go_loopg [8] k (fun kq v8 w' => ∃ (x7_1 : List Int) (x8_1 : Int), v8 = .int .i64 x8_1 ∧ Aside0 (awardingbodyref18_Fill.l0 kq l1 (l0.length : Int) x7_1 x8_1 = some (r1, r2)) ∧ Aside0 (kq ≤ k) ∧ Aside0 (Kd.R (Kd.int .i64) 3 w' w.heap.size (fun _ => True) (.slice Ao5 t105.length co5) x7_1) ∧ Aside0 (Below w.heap.size w w'))
  case atStart => exact ⟨(t105), (0), (by first | rfl | (simp; done) | (simp [*]; done)), H', ⟨Nat.le_refl _⟩, ⟨by (with_reducible repeat (first | apply Kd.R_alloc | apply Kd.R_drewN | apply Kd.R_drew)); exact HO107.out⟩, ⟨by repeat (first | (with_reducible first | exact HB.out | apply below_alloc | apply pw_below_drewN | apply below_drew1) | exact HB.out)⟩⟩
  case round =>
    clear H'
    try clear c1
    try clear p2
    try clear c4
    obtain ⟨x7_1, x8_1, rfl, HA, HK1, HO_7, HB⟩ := hrel
    have hl7_1 := (Kd.R_reads' HO_7.out).1
    rw [hl7_1] at HO_7
    (try simp only [hl7_1])
    cases gk with
    | zero => exact absurd HA.out (by simp [awardingbodyref18_Fill.l0])
    | succ k1 =>
      have H := HA.out
      clear HA
      simp only [awardingbodyref18_Fill.l0] at H
      by_cases c6 : x8_1 < (l1.length : Int)
      · rw [if_pos c6] at H
        have c6b0 : decide (x8_1 < (l1.length : Int)) = true := decide_eq_true c6
        clear c6
        by_cases c7 : 0 ≤ x8_1
        · rw [if_pos c7] at H
          have c7b0 : decide (0 ≤ x8_1) = true := decide_eq_true c7
          clear c7
          by_cases c8 : 0 ≤ (rd l1 x8_1)
          · rw [if_pos c8] at H
            have c8b0 : decide (0 ≤ (rd l1 x8_1)) = true := decide_eq_true c8
            clear c8
            by_cases c9 : (rd l1 x8_1) < (x7_1.length : Int)
            · rw [if_pos c9] at H
              have c9b0 : decide ((rd l1 x8_1) < (x7_1.length : Int)) = true := decide_eq_true c9
              clear c9
              obtain ⟨y109, hy109⟩ : ∃ y_ : List Int, y_ = (x7_1.set ((rd l1 x8_1) : Int).toNat 0) := ⟨_, rfl⟩
              replace H : (awardingbodyref18_Fill.l0 k1 l1 (l0.length : Int) y109 (wrap64 (x8_1 + 1))) = some (r1, r2) := by first | (rw [hy109]; with_reducible exact H) | (have H2_ := (Option.bind_some _ _).symm.trans H; rw [hy109]; with_reducible exact H2_) | (have H2_ := (Option.bind_some _ _).symm.trans H; with_reducible exact H2_) | with_reducible exact H | (rw [hy109]; exact H) | exact H
              have Ny109 := Aside0.mk hy109
              clear hy109
              have H' := Aside0.mk H
              clear H
              have p108 : 0 ≤ (x8_1 : Int) := of_decide_eq_true (by first | (with_reducible assumption) | assumption)
              have q108 : x8_1 < (l1.length : Int) := of_decide_eq_true (by first | (with_reducible assumption) | assumption)
              obtain ⟨ad108, e108, hx108_0⟩ := Kd.at_int HR1.out x8_1 p108 q108
              cases e108
              replace hx108_0 := (HB.out.cell (World.block_lt_of_cell? w _ hx108_0)).trans hx108_0
              replace p108 := eq_true p108
              replace q108 := eq_true q108
              have p10 : 0 ≤ ((rd l1 x8_1) : Int) := of_decide_eq_true (by first | (with_reducible assumption) | assumption)
              have q10 : ((rd l1 x8_1) : Int) < ((x7_1.length : Int) : Int) := of_decide_eq_true (by first | (with_reducible assumption) | assumption)
              obtain ⟨go10, co10, eo10, gb10, gl10, cl10, HG10⟩ := Kd.R_form HO_7.out (by omega)
              (first | cases eo10 | (injection eo10 with ea_ en_ ec_; (first | subst ea_ | (injection ea_ with ea_; subst ea_)); subst ec_; clear en_))
              have GB10 := Aside0.mk gb10
              have GG10 := Aside0.mk HG10
              clear gb10 gl10 HG10
              obtain ⟨hx10_0, hf10_0⟩ := Kd.R_celln 0 HO_7.out ((rd l1 x8_1) : Int) p10 q10
              replace p10 := eq_true p10
              replace q10 := eq_true q10
              have HP11 := Kd.R_putg HO_7.out ((rd l1 x8_1) : Int) 0
              go_wp2_with (first | ((with_reducible refine gate_store (t := 3) (p := 40) rfl ?_); refine store_event (t := 3) (p := 40) (v := ?vo_w12) (w1 := (wr.setCell ⟨go10, ((rd l1 x8_1) : Int).toNat, none⟩ (.int .i64 0))) ?hg ?ho ?hn ?hr ?_; (case ho => rfl); (case hg => rfl); (case hn => rfl); (case hr => first | (go_simp; done) | (go_simp; rfl)); intro w12 hw; have hg : wr.grownBy w12 (some go10) := (by rw [hw]; exact HP11.2); have hp_ : Kd.R (Kd.int .i64) 3 w12 w.heap.size (fun _ => True) (.slice (some ⟨go10, 0, none⟩) x7_1.length co5) y109 := (by rw [hw, Ny109.out]; exact HP11.1); clear HP11; have n0_ := Aside0.mk (hp_); have n1_ := Aside0.mk ((by rw [hw]; exact below_set (HB.out) GB10.out : Below w.heap.size w w12)); clear HO_7; clear HB; have HO_7 := n0_; have HB := n1_; clear n0_ n1_; clear hg hw hp_))
              (try simp only [← hl7_1])
              go_roundg k1
              case measure => have := HK1.out; omega
              case rel => exact ⟨(y109), (wrap64 (x8_1 + 1)), (by first | rfl | (simp; done) | (simp [*]; done)), H', ⟨by have := HK1.out; omega⟩, ⟨by (try simp only [hl7_1]); (with_reducible repeat (first | apply Kd.R_alloc | apply Kd.R_drewN | apply Kd.R_drew)); exact HO_7.out⟩, ⟨by repeat (first | (with_reducible first | exact HB.out | apply below_alloc | apply pw_below_drewN | apply below_drew1) | exact HB.out)⟩⟩
            · rw [if_neg c9] at H
              exact absurd H (by simp)
          · rw [if_neg c8] at H
            exact absurd H (by simp)
        · rw [if_neg c7] at H
          exact absurd H (by simp)
      · rw [if_neg c6] at H
        have c6b0 : decide (x8_1 < (l1.length : Int)) = false := decide_eq_false c6
        clear c6
        have H' := Aside0.mk H
        clear H
        go_wp2
        go_loopg [9, 10] k1 (fun kq v9 v10 w' => ∃ (x9_2 : List (List Int)) (x10_2 : Int), v10 = .int .i64 x10_2 ∧ Aside0 (awardingbodyref18_Fill.l1 kq l1 (l0.length : Int) x7_1 x9_2 x10_2 = some (r1, r2)) ∧ Aside0 (kq ≤ k1) ∧ Aside0 (Kd.R (Kd.int .i64) 3 w' w.heap.size (fun _ => True) (.slice Ao5 x7_1.length co5) x7_1) ∧ Aside0 (Kd.S (Kd.slice 3 (Kd.int .i64)) 27 w' w.heap.size (fun k_ => some k_ ≠ ((.slice Ao5 x7_1.length co5) : Value).ownBlock) v9 x9_2) ∧ Aside0 (Below w.heap.size w w'))
        case atStart => exact ⟨(([] : List (List Int))), (1), (by first | rfl | (simp; done) | (simp [*]; done)), H', ⟨Nat.le_refl _⟩, ⟨by (try simp only [hl7_1]); (with_reducible repeat (first | apply Kd.R_alloc | apply Kd.R_drewN | apply Kd.R_drew)); exact HO_7.out⟩, ⟨by (try simp only [hl7_1]); first | exact Kd.S_nil _ _ _ _ _ | exact Kd.N_nil _ _ _ _ _ | exact Kd.V_nil _ _ _ _ _ | exact Kd.Q_nil _ _ _ _ _ | exact Kd.R_nil _ _ _ _ _⟩, ⟨by repeat (first | (with_reducible first | exact HB.out | apply below_alloc | apply pw_below_drewN | apply below_drew1) | exact HB.out)⟩⟩
        case round =>
          clear H'
          try clear c1
          try clear p1
          try clear q1
          try clear hx1
          try clear p2
          try clear c4
          try clear c6
          try clear c6b0
          try clear p6
          try clear c7
          try clear c7b0
          try clear c8
          try clear c8b0
          try clear c9
          try clear c9b0
          try clear p10
          try clear q10
          try clear hx10
          try clear hf10
          try clear hx108_0
          try clear hx10_0
          try clear p10
          try clear p108
          try clear p2
          try clear q10
          try clear q108
          obtain ⟨x9_2, x10_2, rfl, HA, HK2, HO_7, HO_9, HB⟩ := hrel
          cases gk with
          | zero => exact absurd HA.out (by simp [awardingbodyref18_Fill.l1])
          | succ k2 =>
            have H := HA.out
            clear HA
            simp only [awardingbodyref18_Fill.l1] at H
            by_cases c13 : x10_2 ≤ 6
            · rw [if_pos c13] at H
              have c13b0 : decide (x10_2 ≤ 6) = true := decide_eq_true c13
              clear c13
              have H' := Aside0.mk H
              clear H
              go_wp2
              go_loopg [11, 12] k2 (fun kq v11 v12 w' => ∃ (x11_3 : List Int) (x12_3 : Int), v12 = .int .i64 x12_3 ∧ Aside0 (awardingbodyref18_Fill.l2 kq l1 (l0.length : Int) x7_1 x9_2 x10_2 x11_3 x12_3 = some (r1, r2)) ∧ Aside0 (kq ≤ k2) ∧ Aside0 (Kd.R (Kd.int .i64) 3 w' w.heap.size (fun k_ => some k_ ≠ (v11 : Value).ownBlock) (.slice Ao5 x7_1.length co5) x7_1) ∧ Aside0 (Kd.S (Kd.slice 3 (Kd.int .i64)) 27 w' w.heap.size (fun k_ => some k_ ≠ ((.slice Ao5 x7_1.length co5) : Value).ownBlock ∧ some k_ ≠ (v11 : Value).ownBlock) u9 x9_2) ∧ Aside0 (Kd.R (Kd.int .i64) 3 w' w.heap.size (fun k_ => some k_ ≠ ((.slice Ao5 x7_1.length co5) : Value).ownBlock) v11 x11_3) ∧ Aside0 (Below w.heap.size w w'))
              case atStart => exact ⟨(([] : List Int)), (0), (by first | rfl | (simp; done) | (simp [*]; done)), H', ⟨Nat.le_refl _⟩, ⟨by (try simp only [hl7_1]); (with_reducible repeat (first | apply Kd.R_alloc | apply Kd.R_drewN | apply Kd.R_drew)); exact Kd.R_mono HO_7.out (fun _ hk => (by simp [Value.ownBlock]))⟩, ⟨by (try simp only [hl7_1]); (with_reducible repeat (first | apply Kd.S_alloc | apply Kd.S_drewN | apply Kd.S_drew)); exact Kd.S_mono HO_9.out (fun _ hk => ⟨hk, (by simp [Value.ownBlock])⟩)⟩, ⟨by (try simp only [hl7_1]); first | exact Kd.R_nil _ _ _ _ _ | exact Kd.N_nil _ _ _ _ _ | exact Kd.V_nil _ _ _ _ _ | exact Kd.Q_nil _ _ _ _ _ | exact Kd.S_nil _ _ _ _ _⟩, ⟨by repeat (first | (with_reducible first | exact HB.out | apply below_alloc | apply pw_below_drewN | apply below_drew1) | exact HB.out)⟩⟩
              case round =>
                clear H'
                try clear c1
                try clear p1
                try clear q1
                try clear hx1
                try clear p2
                try clear c4
                try clear c6
                try clear c6b0
                try clear p6
                try clear c7
                try clear c7b0
                try clear c8
                try clear c8b0
                try clear c9
                try clear c9b0
                try clear p10
                try clear q10
                try clear hx10
                try clear hf10
                try clear c13
                try clear c13b0
                try clear hx108_0
                try clear hx10_0
                try clear p1
                try clear p10
                try clear p108
                try clear p2
                try clear p6
                try clear q1
                try clear q10
                try clear q108
                obtain ⟨x11_3, x12_3, rfl, HA, HK3, HO_7, HO_9, HO_11, HB⟩ := hrel
                cases gk with
                | zero => exact absurd HA.out (by simp [awardingbodyref18_Fill.l2])
                | succ k3 =>
                  have H := HA.out
                  clear HA
                  simp only [awardingbodyref18_Fill.l2] at H
                  by_cases c14 : x12_3 < (l1.length : Int)
                  · rw [if_pos c14] at H
                    have c14b0 : decide (x12_3 < (l1.length : Int)) = true := decide_eq_true c14
                    clear c14
                    by_cases c15 : 0 ≤ x12_3
                    · rw [if_pos c15] at H
                      have c15b0 : decide (0 ≤ x12_3) = true := decide_eq_true c15
                      clear c15
                      replace H := Option.bind_eq_some_iff.mp H
                      obtain ⟨t115, A160, H⟩ := H
                      replace H : (if x11_3.length < 17592186044416 then (awardingbodyref18_Fill.l2 k3 l1 (l0.length : Int) x7_1 x9_2 x10_2 (x11_3 ++ [t115]) (wrap64 (x12_3 + 1))) else (none)) = some (r1, r2) := H
                      have A16 := Aside0.mk A160
                      clear A160
                      by_cases c17 : x11_3.length < 17592186044416
                      · rw [if_pos c17] at H
                        have LMc17 := Aside0.mk c17
                        clear c17
                        obtain ⟨y116, hy116⟩ : ∃ y_ : List Int, y_ = (x11_3 ++ [t115]) := ⟨_, rfl⟩
                        replace H : (awardingbodyref18_Fill.l2 k3 l1 (l0.length : Int) x7_1 x9_2 x10_2 y116 (wrap64 (x12_3 + 1))) = some (r1, r2) := by first | (rw [hy116]; with_reducible exact H) | (have H2_ := (Option.bind_some _ _).symm.trans H; rw [hy116]; with_reducible exact H2_) | (have H2_ := (Option.bind_some _ _).symm.trans H; with_reducible exact H2_) | with_reducible exact H | (rw [hy116]; exact H) | exact H
                        have Ny116 := Aside0.mk hy116
                        clear hy116
                        have H' := Aside0.mk H
                        clear H
                        have p114 : 0 ≤ (x12_3 : Int) := of_decide_eq_true (by first | (with_reducible assumption) | assumption)
                        have q114 : x12_3 < (l1.length : Int) := of_decide_eq_true (by first | (with_reducible assumption) | assumption)
                        obtain ⟨ad114, e114, hx114_0⟩ := Kd.at_int HR1.out x12_3 p114 q114
                        cases e114
                        replace hx114_0 := (HB.out.cell (World.block_lt_of_cell? w _ hx114_0)).trans hx114_0
                        replace p114 := eq_true p114
                        replace q114 := eq_true q114
                        go_wp2_with (first | ((with_reducible refine gate_callee (f := 21) rfl ?_); refine goesL_ (some 61) rfl rfl Try.func21 (by kernel_rfl) rfl #[.int .i64 (wrap64 (x10_2 * (wrap64 ((wrap64 ((l0.length : Int) - 1)) - (rd l1 x12_3)))))] rfl (by (try simp only [List.map_toArray, List.map_cons, List.map_nil]); first | done | rfl | (simp only [List.length_drop, List.length_take]; rfl)) ?_; (with_reducible refine (r_Power.calls (wrap64 (x10_2 * (wrap64 ((wrap64 ((l0.length : Int) - 1)) - (rd l1 x12_3))))) t115 _ A16.out).mono ?_); rintro e w18 ⟨rfl, hb⟩; refine ⟨_, rfl, ?_⟩; have n0_ := Aside0.mk (Kd.R_below (by (with_reducible repeat (first | apply Kd.R_alloc | apply Kd.R_drewN | apply Kd.R_drew)); exact HO_7.out) hb); have n1_ := Aside0.mk (Kd.S_below (by (with_reducible repeat (first | apply Kd.S_alloc | apply Kd.S_drewN | apply Kd.S_drew)); exact HO_9.out) hb); have n2_ := Aside0.mk (Kd.R_below (by (with_reducible repeat (first | apply Kd.R_alloc | apply Kd.R_drewN | apply Kd.R_drew)); exact HO_11.out) hb); have n3_ := Aside0.mk (below_step (by repeat (first | (with_reducible first | exact HB.out | apply below_alloc | apply pw_below_drewN | apply below_drew1) | exact HB.out)) hb); clear HO_7; clear HO_9; clear HO_11; clear HB; have HO_7 := n0_; have HO_9 := n1_; have HO_11 := n2_; have HB := n3_; clear n0_ n1_ n2_ n3_; (try clear hb); (try clear hb2); (try clear hk); (try clear hi)) | ((with_reducible refine gate_builtin (b := .append) (xs := #[.tmp 51, .tmp 62]) rfl ?_); at_builtin; refine Kd.R_append (Kd.int .i64) (w0 := w) w.heap.size rfl (.tmp 51) (.tmp 62) 27 3 (.int .i64 0) 8 rfl Try.underlying27 info3 rfl (by decide) (by omega) u11 x11_3 t115 [.int .i64 t115] (fun k_ => some k_ ≠ (.slice Ao5 x7_1.length co5 : Value).ownBlock) (fun _ => False) rfl rfl ?aP (fun _ hk => hk.elim) ?aF ?aO ?aB ?aS ?aL ?_; (case aP => exact rfl); (case aB => exact (by repeat (first | (with_reducible first | exact HB.out | apply below_alloc | apply pw_below_drewN | apply below_drew1) | exact HB.out))); (case aF => exact (fun k_ hk => Kd.fresh' (Kd.R_lt (by (with_reducible repeat (first | apply Kd.R_alloc | apply Kd.R_drewN | apply Kd.R_drew)); exact HO_7.out)) k_ hk)); (case aO => exact (by (with_reducible repeat (first | apply Kd.R_alloc | apply Kd.R_drewN | apply Kd.R_drew)); exact HO_11.out)); (case aS => exact (below_size (by repeat (first | (with_reducible first | exact HB.out | apply below_alloc | apply pw_below_drewN | apply below_drew1) | exact HB.out)))); (case aL => have := LMc17.out; omega); intro v117 w19 ho hb hg hat; rw [← Ny116.out] at ho; have n0_ := Aside0.mk (Kd.R_after (ok := (fun _ => True)) (by (with_reducible repeat (first | apply Kd.R_alloc | apply Kd.R_drewN | apply Kd.R_drew)); exact Kd.R_mono HO_7.out (fun _ hk => ⟨trivial, hk⟩)) hg hat); have n1_ := Aside0.mk (Kd.S_after (ok := (fun k_ => some k_ ≠ (.slice Ao5 x7_1.length co5 : Value).ownBlock)) (by (with_reducible repeat (first | apply Kd.S_alloc | apply Kd.S_drewN | apply Kd.S_drew)); exact HO_9.out) hg hat); have n2_ := Aside0.mk (hb); have n3_ := Aside0.mk (ho); clear HO_7; clear HO_9; clear HB; clear HO_11; have HO_7 := n0_; have HO_9 := n1_; have HB := n2_; have HO118 := n3_; clear n0_ n1_ n2_ n3_; clear ho hb hg hat))
                        go_roundg k3
                        case measure => have := HK1.out; have := HK2.out; have := HK3.out; omega
                        case rel => exact ⟨(y116), (wrap64 (x12_3 + 1)), (by first | rfl | (simp; done) | (simp [*]; done)), H', ⟨by have := HK1.out; have := HK2.out; have := HK3.out; omega⟩, ⟨by (try simp only [hl7_1]); (with_reducible repeat (first | apply Kd.R_alloc | apply Kd.R_drewN | apply Kd.R_drew)); exact Kd.R_mono HO_7.out (fun _ hk => hk.2)⟩, ⟨by (try simp only [hl7_1]); (with_reducible repeat (first | apply Kd.S_alloc | apply Kd.S_drewN | apply Kd.S_drew)); exact HO_9.out⟩, ⟨by (try simp only [hl7_1]); (with_reducible repeat (first | apply Kd.R_alloc | apply Kd.R_drewN | apply Kd.R_drew)); exact HO118.out⟩, ⟨by repeat (first | (with_reducible first | exact HB.out | apply below_alloc | apply pw_below_drewN | apply below_drew1) | exact HB.out)⟩⟩
                      · rw [if_neg c17] at H
                        exact absurd H (by simp)
                    · rw [if_neg c15] at H
                      exact absurd H (by simp)
                  · rw [if_neg c14] at H
                    have c14b0 : decide (x12_3 < (l1.length : Int)) = false := decide_eq_false c14
                    clear c14
                    replace H := Option.bind_eq_some_iff.mp H
                    obtain ⟨t119, A200, H⟩ := H
                    replace H : (if x11_3.length < 17592186044416 then (if x9_2.length < 5864062014805 then (awardingbodyref18_Fill.l1 k3 l1 (l0.length : Int) x7_1 (x9_2 ++ [(x11_3 ++ [t119])]) (wrap64 (x10_2 + 1))) else (none)) else (none)) = some (r1, r2) := H
                    have A20 := Aside0.mk A200
                    clear A200
                    by_cases c21 : x11_3.length < 17592186044416
                    · rw [if_pos c21] at H
                      have LMc21 := Aside0.mk c21
                      clear c21
                      obtain ⟨y120, hy120⟩ : ∃ y_ : List Int, y_ = (x11_3 ++ [t119]) := ⟨_, rfl⟩
                      replace H : (if x9_2.length < 5864062014805 then (awardingbodyref18_Fill.l1 k3 l1 (l0.length : Int) x7_1 (x9_2 ++ [y120]) (wrap64 (x10_2 + 1))) else (none)) = some (r1, r2) := by first | (rw [hy120]; with_reducible exact H) | (have H2_ := (Option.bind_some _ _).symm.trans H; rw [hy120]; with_reducible exact H2_) | (have H2_ := (Option.bind_some _ _).symm.trans H; with_reducible exact H2_) | with_reducible exact H | (rw [hy120]; exact H) | exact H
                      have Ny120 := Aside0.mk hy120
                      clear hy120
                      by_cases c22 : x9_2.length < 5864062014805
                      · rw [if_pos c22] at H
                        have LMc22 := Aside0.mk c22
                        clear c22
                        obtain ⟨y123, hy123⟩ : ∃ y_ : List (List Int), y_ = (x9_2 ++ [y120]) := ⟨_, rfl⟩
                        replace H : (awardingbodyref18_Fill.l1 k3 l1 (l0.length : Int) x7_1 y123 (wrap64 (x10_2 + 1))) = some (r1, r2) := by first | (rw [hy123]; with_reducible exact H) | (have H2_ := (Option.bind_some _ _).symm.trans H; rw [hy123]; with_reducible exact H2_) | (have H2_ := (Option.bind_some _ _).symm.trans H; with_reducible exact H2_) | with_reducible exact H | (rw [hy123]; exact H) | exact H
                        have Ny123 := Aside0.mk hy123
                        clear hy123
                        have H' := Aside0.mk H
                        clear H
                        go_wp2_with (first | ((with_reducible refine gate_callee (f := 52) rfl ?_); refine goesL_ (some 68) rfl rfl Try.func52 (by kernel_rfl) rfl #[.slice Ao5 x7_1.length co5, .int .i64 x10_2] rfl (by (try simp only [List.map_toArray, List.map_cons, List.map_nil]); first | done | rfl | (simp only [List.length_drop, List.length_take]; rfl)) ?_; (with_reducible refine (r_Syn.calls _ _ x7_1 x10_2 t119 _ ?side1 ?side2 A20.out).mono ?_); (case side1 => repeat (first | exact (Kd.R_reads' HO_7.out).2.2 | (with_reducible refine Kd.C_alloc ?_ _) | (with_reducible refine Kd.C_drewN ?_ _) | (with_reducible refine Kd.C_drew ?_))); (case side2 => exact (Kd.R_reads' HO_7.out).2.1); rintro e w23 ⟨rfl, hb⟩; refine ⟨_, rfl, ?_⟩; have n0_ := Aside0.mk (Kd.R_below (by (with_reducible repeat (first | apply Kd.R_alloc | apply Kd.R_drewN | apply Kd.R_drew)); exact HO_7.out) hb); have n1_ := Aside0.mk (Kd.S_below (by (with_reducible repeat (first | apply Kd.S_alloc | apply Kd.S_drewN | apply Kd.S_drew)); exact HO_9.out) hb); have n2_ := Aside0.mk (Kd.R_below (by (with_reducible repeat (first | apply Kd.R_alloc | apply Kd.R_drewN | apply Kd.R_drew)); exact HO_11.out) hb); have n3_ := Aside0.mk (below_step (by repeat (first | (with_reducible first | exact HB.out | apply below_alloc | apply pw_below_drewN | apply below_drew1) | exact HB.out)) hb); clear HO_7; clear HO_9; clear HO_11; clear HB; have HO_7 := n0_; have HO_9 := n1_; have HO_11 := n2_; have HB := n3_; clear n0_ n1_ n2_ n3_; (try clear hb); (try clear hb2); (try clear hk); (try clear hi)) | ((with_reducible refine gate_builtin (b := .append) (xs := #[.tmp 65, .tmp 69]) rfl ?_); at_builtin; refine Kd.R_append (Kd.int .i64) (w0 := w) w.heap.size rfl (.tmp 65) (.tmp 69) 27 3 (.int .i64 0) 8 rfl Try.underlying27 info3 rfl (by decide) (by omega) u11 x11_3 t119 [.int .i64 t119] (fun k_ => some k_ ≠ (.slice Ao5 x7_1.length co5 : Value).ownBlock) (fun _ => False) rfl rfl ?aP (fun _ hk => hk.elim) ?aF ?aO ?aB ?aS ?aL ?_; (case aP => exact rfl); (case aB => exact (by repeat (first | (with_reducible first | exact HB.out | apply below_alloc | apply pw_below_drewN | apply below_drew1) | exact HB.out))); (case aF => exact (fun k_ hk => Kd.fresh' (Kd.R_lt (by (with_reducible repeat (first | apply Kd.R_alloc | apply Kd.R_drewN | apply Kd.R_drew)); exact HO_7.out)) k_ hk)); (case aO => exact (by (with_reducible repeat (first | apply Kd.R_alloc | apply Kd.R_drewN | apply Kd.R_drew)); exact HO_11.out)); (case aS => exact (below_size (by repeat (first | (with_reducible first | exact HB.out | apply below_alloc | apply pw_below_drewN | apply below_drew1) | exact HB.out)))); (case aL => have := LMc21.out; omega); intro v121 w24 ho hb hg hat; rw [← Ny120.out] at ho; have n0_ := Aside0.mk (Kd.R_after (ok := (fun _ => True)) (by (with_reducible repeat (first | apply Kd.R_alloc | apply Kd.R_drewN | apply Kd.R_drew)); exact Kd.R_mono HO_7.out (fun _ hk => ⟨trivial, hk⟩)) hg hat); have n1_ := Aside0.mk (Kd.S_after (ok := (fun k_ => some k_ ≠ (.slice Ao5 x7_1.length co5 : Value).ownBlock)) (by (with_reducible repeat (first | apply Kd.S_alloc | apply Kd.S_drewN | apply Kd.S_drew)); exact HO_9.out) hg hat); have n2_ := Aside0.mk (hb); have n3_ := Aside0.mk (ho); clear HO_7; clear HO_9; clear HB; clear HO_11; have HO_7 := n0_; have HO_9 := n1_; have HB := n2_; have HO122 := n3_; clear n0_ n1_ n2_ n3_; clear ho hb hg hat; obtain ⟨Ao26, co26, eo26⟩ := Kd.R_slice HO122.out; subst eo26) | ((with_reducible refine gate_builtin (b := .append) (xs := #[.tmp 64, .tmp 71]) rfl ?_); at_builtin; refine Kd.S_append (Kd.slice 3 (Kd.int .i64)) (w0 := w) w.heap.size rfl (.tmp 64) (.tmp 71) 64 27 (.slice none 0 0) 24 rfl Try.underlying64 info27 rfl (by decide) (by omega) u9 x9_2 y120 [.slice Ao26 y120.length co26] (fun k_ => some k_ ≠ (.slice Ao5 x7_1.length co5 : Value).ownBlock) (fun k_ => some k_ = (.slice Ao26 y120.length co26 : Value).ownBlock) rfl rfl ?aP (fun k_ hk_ => ((Kd.R_mono (ok' := fun k_ => ((fun k_ => some k_ ≠ (.slice Ao5 x7_1.length co5 : Value).ownBlock)) k_ ∧ some k_ ≠ (u9 : Value).ownBlock) (Kd.R_apart' (HO122.out) (Kd.S_typed HO_9.out) (by decide)) (fun k_ hk => ⟨hk.1, hk.2⟩))).1 k_ hk_.symm) ?aF ?aO ?aB ?aS ?aL ?_; (case aP => exact Kd.M_row (Kd.R_mono (Kd.R_tight rfl (Kd.R_mono (ok' := fun k_ => ((fun k_ => some k_ ≠ (.slice Ao5 x7_1.length co5 : Value).ownBlock)) k_ ∧ some k_ ≠ (u9 : Value).ownBlock) (Kd.R_apart' (HO122.out) (Kd.S_typed HO_9.out) (by decide)) (fun k_ hk => ⟨hk.1, hk.2⟩))) (fun _ h_ => h_))); (case aB => exact (by repeat (first | (with_reducible first | exact HB.out | apply below_alloc | apply pw_below_drewN | apply below_drew1) | exact HB.out))); (case aF => exact (fun k_ hk => Kd.fresh' (Kd.R_lt (by (with_reducible repeat (first | apply Kd.R_alloc | apply Kd.R_drewN | apply Kd.R_drew)); exact HO_7.out)) k_ hk)); (case aO => exact (by (with_reducible repeat (first | apply Kd.S_alloc | apply Kd.S_drewN | apply Kd.S_drew)); exact Kd.S_mono HO_9.out (fun k_ hk => ⟨hk.1, fun e_ => hk.2 e_⟩))); (case aS => exact (below_size (by repeat (first | (with_reducible first | exact HB.out | apply below_alloc | apply pw_below_drewN | apply below_drew1) | exact HB.out)))); (case aL => have := LMc22.out; omega); intro v124 w25 ho hb hg hat; rw [← Ny123.out] at ho; have n0_ := Aside0.mk (Kd.R_over' (by (with_reducible repeat (first | apply Kd.R_alloc | apply Kd.R_drewN | apply Kd.R_drew)); exact HO_7.out) (Kd.S_typed (by (with_reducible repeat (first | apply Kd.S_alloc | apply Kd.S_drewN | apply Kd.S_drew)); exact HO_9.out)) (by decide) hg); have n1_ := Aside0.mk (hb); have n2_ := Aside0.mk (ho); clear HO_7; clear HB; clear HO_9; clear HO122; have HO_7 := n0_; have HB := n1_; have HO125 := n2_; clear n0_ n1_ n2_; clear ho hb hg hat))
                        go_roundg k3
                        case measure => have := HK1.out; have := HK2.out; have := HK3.out; omega
                        case rel => exact ⟨(y123), (wrap64 (x10_2 + 1)), (by first | rfl | (simp; done) | (simp [*]; done)), H', ⟨by have := HK1.out; have := HK2.out; have := HK3.out; omega⟩, ⟨by (try simp only [hl7_1]); (with_reducible repeat (first | apply Kd.R_alloc | apply Kd.R_drewN | apply Kd.R_drew)); exact Kd.R_mono HO_7.out (fun _ hk => trivial)⟩, ⟨by (try simp only [hl7_1]); (with_reducible repeat (first | apply Kd.S_alloc | apply Kd.S_drewN | apply Kd.S_drew)); exact HO125.out⟩, ⟨by repeat (first | (with_reducible first | exact HB.out | apply below_alloc | apply pw_below_drewN | apply below_drew1) | exact HB.out)⟩⟩
                      · rw [if_neg c22] at H
                        exact absurd H (by simp)
                    · rw [if_neg c21] at H
                      exact absurd H (by simp)
            · rw [if_neg c13] at H
              have c13b0 : decide (x10_2 ≤ 6) = false := decide_eq_false c13
              clear c13
              replace H := Option.bind_eq_some_iff.mp H
              obtain ⟨⟨t110, t111⟩, A270, H⟩ := H
              replace H : (some (t110, t111)) = some (r1, r2) := H
              have A27 := Aside0.mk A270
              clear A270
              simp only [Option.some.injEq, Prod.mk.injEq] at H
              obtain ⟨rfl, rfl⟩ := H
              obtain ⟨Ao28, co28, eo28⟩ := Kd.S_slice HO_9.out
              subst eo28
              obtain ⟨w0_, rfl⟩ : ∃ x : World, x = wr := ⟨_, rfl⟩
              obtain ⟨h6_, hn_, ho1_, ho2_, hp_, hr_, he_⟩ := tail_facts (g_tail.ok A27.out)
              obtain ⟨g, cap, h, cc, ev_, HM_, Hg_, Hh_⟩ := mat_of_S2 HO_9.out (by omega) hr_ (by omega)
              obtain ⟨go, coo, eo_, hgo_, hgl_, _⟩ := Kd.R_form HO_7.out (by omega)
              injection ev_ with a_ b_ c_
              subst a_ c_
              injection eo_ with a_ b_ c_
              subst a_ c_
              have hRb : x9_2.length ≤ 100 := by omega
              have hnb : l1.length ≤ 100 := by omega
              have H6 := Lib.hid h6_
              have HN := Lib.hid hn_
              have HP := Lib.hid hp_
              have HGO := Lib.hid hgo_
              obtain ⟨M, hM_⟩ : ∃ M, M = matOf x9_2 := ⟨_, rfl⟩
              have HT := Lib.hid (show Tl w0_ w.heap.size g x9_2.length (l1.length + 1) h cc M 3 go co5 x7_1.length x7_1 from ⟨by rw [hM_]; exact HM_, Kd.R_reok rfl HO_7.out (fun k hk => (Option.some.inj hk).symm), fun e => Hg_ (congrArg some e), fun i hi e => Hh_ i hi (congrArg some e), by rw [hM_]; exact he_⟩)
              have HMM := Lib.hid hM_
              have HB0 := Lib.hid HB.out
              clear h6_ hn_ hp_ hr_ he_ HM_ Hg_ Hh_ hM_ HO_7 HO_9 HB b_ ho1_ ho2_ hgo_ hgl_
              go_wp2
              go_loopw [13] (fun v wr => ∃ c : Nat, c ≤ l1.length ∧ v = .int .i64 c ∧ ∃ (h cc : Nat → Nat) (M' : Nat → Nat → Int), Hid (gjI x9_2.length M c = some M') ∧ Hid (Tl wr w.heap.size g x9_2.length (l1.length + 1) h cc M' 3 go co5 x7_1.length x7_1) ∧ Hid (Below w.heap.size w wr)) (fun v _ => l1.length - (intOf v).toNat)
              case atStart => exact ⟨0, Nat.zero_le _, rfl, h, cc, M, Lib.hid rfl, HT, HB0⟩
              case round =>
                clear HT HB0
                obtain ⟨c, hc, rfl, h, cc, M1, HG, HT, HB⟩ := hrel
                obtain ⟨wo, rfl⟩ : ∃ wo : World, wo = wr := ⟨_, rfl⟩
                by_cases hcn : c < l1.length
                · have hcR : c < x9_2.length := by have := H6.out; have := HN.out; omega
                  go_wp2
                  go_loop [14] (fun v => ∃ r : Nat, c ≤ r ∧ r ≤ x9_2.length ∧ v = .int .i64 r ∧ Hid (∀ i, c ≤ i → i < r → M1 i c = 0)) (fun v => x9_2.length - (intOf v).toNat)
                  case atStart => exact ⟨c, Nat.le_refl _, by omega, rfl, Lib.hid (fun i h1 h2 => by omega)⟩
                  case round =>
                    obtain ⟨r, hr1, hr2, rfl, HZ⟩ := hrel
                    by_cases hrR : r < x9_2.length
                    · have fo := HT.out.mat.out r hrR
                      have fe := HT.out.mat.cel r c hrR (by omega)
                      by_cases hz : M1 r c = 0
                      · have hb : ((M1 r c) == 0) = true := beq_iff_eq.2 hz
                        have HZ1 := Lib.hid hz
                        clear hz
                        go_wp2
                        go_round
                        case rel => exact ⟨r + 1, by omega, by omega, by go_num, Lib.hid (fun i h1 h2 => by rcases Nat.lt_or_ge i r with h3 | h3; exact HZ.out i h1 h3; rw [show i = r from by omega]; exact HZ1.out)⟩
                        case measure => simp [intOf]; omega
                      · have hb : ((M1 r c) == 0) = false := beq_eq_false_iff_ne.2 hz
                        have hb2 : ((r : Int) == (x9_2.length : Int)) = false := beq_eq_false_iff_ne.2 (by omega)
                        have HZ1 := Lib.hid hz
                        clear hz
                        have fc := HT.out.mat.out c hcR
                        have sf := HT.out.mat.fro c hcR
                        have sg := HT.out.mat.fro r hrR
                        obtain ⟨vr, hvr⟩ := cell_after fo ⟨g, c, none⟩ (.slice (some ⟨h r, 0, none⟩) (l1.length + 1) (cc r))
                        have HT2 := Lib.hid (Tl.swap HT.out c r hcR hrR)
                        have HB2 := Lib.hid ((HB.out.setCell (p := ⟨g, c, none⟩) HT.out.mat.lg (.slice (some ⟨h r, 0, none⟩) (l1.length + 1) (cc r))).setCell (p := ⟨g, r, none⟩) HT.out.mat.lg (.slice (some ⟨h c, 0, none⟩) (l1.length + 1) (cc c)))
                        have fo2 := HT2.out.mat.out c hcR
                        have fe2 := HT2.out.mat.cel c c hcR (by omega)
                        obtain ⟨M2, hM2⟩ : ∃ x, x = swapF M1 c r := ⟨_, rfl⟩
                        obtain ⟨h2, hh2⟩ : ∃ x, x = swapF h c r := ⟨_, rfl⟩
                        obtain ⟨cc2, hcc2⟩ : ∃ x, x = swapF cc c r := ⟨_, rfl⟩
                        obtain ⟨b, hbb⟩ : ∃ x, x = invI (M2 c c) := ⟨_, rfl⟩
                        rw [← hh2, ← hcc2, ← hM2] at HT2
                        rw [← hh2, ← hcc2] at fo2
                        rw [← hh2, ← hM2] at fe2
                        have HE := Lib.hid hM2
                        have HI := Lib.hid hbb
                        clear hM2 hbb hh2 hcc2
                        go_wp2_with (first | ((with_reducible refine gate_callee (f := 18) rfl ?_); refine goesL_ (some 122) rfl rfl Try.func18 (by kernel_rfl) rfl #[.int .i64 (M2 c c)] rfl (by (try simp only [List.map_toArray, List.map_cons, List.map_nil]); first | done | rfl) ?_; (with_reducible refine (r_Inverse.calls (M2 c c) _ _ rfl).mono ?_); rintro e w' ⟨rfl, ⟨nd, rfl⟩⟩; refine ⟨_, rfl, ?_⟩; rw [← HI.out]))
                        have HT3 := Lib.hid (HT2.out.drewN nd)
                        have HB3 := Lib.hid (pw_below_drewN HB2.out nd)
                        clear HT2 HB2 fo2 fe2 hvr sf sg fc fo fe
                        generalize ((wo.setCell ⟨g, c, none⟩ (.slice (some ⟨h r, 0, none⟩) (l1.length + 1) (cc r))).setCell ⟨g, r, none⟩ (.slice (some ⟨h c, 0, none⟩) (l1.length + 1) (cc c))).drewN nd = w3 at HT3 HB3 ⊢
                        go_loopw [17] (fun v wr => ∃ k : Nat, k ≤ l1.length + 1 ∧ v = .int .i64 k ∧ Hid (Tl wr w.heap.size g x9_2.length (l1.length + 1) h2 cc2 (scaleTo M2 c b k) 3 go co5 x7_1.length x7_1) ∧ Hid (Below w.heap.size w wr)) (fun v _ => l1.length + 1 - (intOf v).toNat)
                        case atStart => exact ⟨0, Nat.zero_le _, rfl, Lib.hid (by rw [scaleTo_zero]; exact HT3.out), HB3⟩
                        case round =>
                          clear HT3 HB3
                          obtain ⟨k, hk, rfl, HM, HB⟩ := hrel
                          obtain ⟨w4, rfl⟩ : ∃ x : World, x = wr := ⟨_, rfl⟩
                          have fo := HM.out.mat.out c hcR
                          by_cases hkn : k < l1.length + 1
                          · go_wp2
                            have HM1 := Lib.hid (HM.out.drew)
                            have HB1 := Lib.hid (below_drew1 HB.out)
                            clear fo
                            have fe : w4.drew.cell? ⟨h2 c, k, none⟩ = some (.int .i64 (M2 c k)) := by have := HM1.out.mat.cel c k hcR hkn; rwa [scaleTo_at] at this
                            refine start_ (n := 16) (S := fun w' => w'.cell? ⟨g, c, none⟩ = some (.slice (some ⟨h2 c, 0, none⟩) (l1.length + 1) (cc2 c)) ∧ w'.cell? ⟨h2 c, k, none⟩ = some (.int .i64 (M2 c k))) (ds := [15]) #[false, false, false, false, false, false, false, false, false, false, false, false, false, false, false, false] (by kernel_rfl) rfl rfl ⟨HM1.out.mat.out c hcR, fe⟩ (fun hHeld => ?_)
                            generalize w4.drew = w5 at HM1 HB1 hHeld ⊢
                            clear fe
                            refine pure_ (i := 0) (N := some 132) (v := ?_) (a' := ?_) #[true, false, false, false, false, false, false, false, false, false, false, false, false, false, false, false] rfl rfl (by kernel_rfl) (fun _ _ _ h => h) (Or.inl ⟨by rfl, ?_⟩) ?_ ?_
                            rotate_left
                            · intro w'
                              go_simp
                              with_reducible rfl
                            rotate_left
                            · simp only [Act.put, List.setIfInBounds_toArray, List.set_cons_zero, List.set_cons_succ, i64_w, i32_w]
                              rfl
                            refine pure_ (i := 1) (N := some 133) (v := ?_) (a' := ?_) #[true, true, false, false, false, false, false, false, false, false, false, false, false, false, false, false] rfl rfl (by kernel_rfl) (fun _ _ _ h => h) (Or.inl ⟨by rfl, ?_⟩) ?_ ?_
                            rotate_left
                            · intro w'
                              go_simp
                              with_reducible rfl
                            rotate_left
                            · simp only [Act.put, List.setIfInBounds_toArray, List.set_cons_zero, List.set_cons_succ, i64_w, i32_w]
                              rfl
                            refine pure_ (i := 2) (N := some 134) (v := ?_) (a' := ?_) #[true, true, true, false, false, false, false, false, false, false, false, false, false, false, false, false] rfl rfl (by kernel_rfl) (fun _ _ _ h => h) (Or.inl ⟨by rfl, ?_⟩) ?_ ?_
                            rotate_left
                            · intro w'
                              go_simp
                              with_reducible rfl
                            rotate_left
                            · simp only [Act.put, List.setIfInBounds_toArray, List.set_cons_zero, List.set_cons_succ, i64_w, i32_w]
                              rfl
                            refine pure_ (i := 4) (N := some 136) (v := ?_) (a' := ?_) #[true, true, true, false, true, false, false, false, false, false, false, false, false, false, false, false] rfl rfl (by kernel_rfl) (fun _ _ _ h => h) (Or.inl ⟨by rfl, ?_⟩) ?_ ?_
                            rotate_left
                            · intro w'
                              go_simp
                              with_reducible rfl
                            rotate_left
                            · simp only [Act.put, List.setIfInBounds_toArray, List.set_cons_zero, List.set_cons_succ, i64_w, i32_w]
                              rfl
                            refine pure_ (i := 5) (N := some 137) (v := ?_) (a' := ?_) #[true, true, true, false, true, true, false, false, false, false, false, false, false, false, false, false] rfl rfl (by kernel_rfl) (fun _ _ _ h => h) (Or.inl ⟨by rfl, ?_⟩) ?_ ?_
                            rotate_left
                            · intro w'
                              go_simp
                              with_reducible rfl
                            rotate_left
                            · simp only [Act.put, List.setIfInBounds_toArray, List.set_cons_zero, List.set_cons_succ, i64_w, i32_w]
                              rfl
                            refine pure_ (i := 6) (N := some 138) (v := ?_) (a' := ?_) #[true, true, true, false, true, true, true, false, false, false, false, false, false, false, false, false] rfl rfl (by kernel_rfl) (fun _ _ _ h => h) (Or.inl ⟨by rfl, ?_⟩) ?_ ?_
                            rotate_left
                            · intro w'
                              go_simp
                              with_reducible rfl
                            rotate_left
                            · simp only [Act.put, List.setIfInBounds_toArray, List.set_cons_zero, List.set_cons_succ, i64_w, i32_w]
                              rfl
                            refine pure_ (i := 7) (N := some 139) (v := ?_) (a' := ?_) #[true, true, true, false, true, true, true, true, false, false, false, false, false, false, false, false] rfl rfl (by kernel_rfl) (fun _ _ _ h => h) (Or.inl ⟨by rfl, ?_⟩) ?_ ?_
                            rotate_left
                            · intro w'
                              go_simp
                              with_reducible rfl
                            rotate_left
                            · simp only [Act.put, List.setIfInBounds_toArray, List.set_cons_zero, List.set_cons_succ, i64_w, i32_w]
                              rfl
                            refine pure_ (i := 9) (N := some 141) (v := ?_) (a' := ?_) #[true, true, true, false, true, true, true, true, false, true, false, false, false, false, false, false] rfl rfl (by kernel_rfl) (fun _ _ _ h => h) (Or.inl ⟨by rfl, ?_⟩) ?_ ?_
                            rotate_left
                            · intro w'
                              go_simp
                              with_reducible rfl
                            rotate_left
                            · simp only [Act.put, List.setIfInBounds_toArray, List.set_cons_zero, List.set_cons_succ, i64_w, i32_w]
                              rfl
                            refine pure_ (i := 12) (N := some 144) (v := ?_) (a' := ?_) #[true, true, true, false, true, true, true, true, false, true, false, false, true, false, false, false] rfl rfl (by kernel_rfl) (fun _ _ _ h => h) (Or.inl ⟨by rfl, ?_⟩) ?_ ?_
                            rotate_left
                            · intro w'
                              go_simp
                              with_reducible rfl
                            rotate_left
                            · simp only [Act.put, List.setIfInBounds_toArray, List.set_cons_zero, List.set_cons_succ, i64_w, i32_w]
                              rfl
                            refine take_ (i := 3) (N := some 135) (v := ?_) (a' := ?_) #[true, true, true, true, true, true, true, true, false, true, false, false, true, false, false, false] rfl rfl (by kernel_rfl) (fun _ _ _ h => h) (Or.inl ⟨by rfl, ?_⟩) hHeld ?_ ?_
                            rotate_left
                            · rintro w' ⟨s0, s1⟩
                              go_simp
                              with_reducible rfl
                            rotate_left
                            · simp only [Act.put, List.setIfInBounds_toArray, List.set_cons_zero, List.set_cons_succ, i64_w, i32_w]
                              rfl
                            refine take_ (i := 8) (N := some 140) (v := ?_) (a' := ?_) #[true, true, true, true, true, true, true, true, true, true, false, false, true, false, false, false] rfl rfl (by kernel_rfl) (fun _ _ _ h => h) (Or.inl ⟨by rfl, ?_⟩) hHeld ?_ ?_
                            rotate_left
                            · rintro w' ⟨s0, s1⟩
                              go_simp
                              with_reducible rfl
                            rotate_left
                            · simp only [Act.put, List.setIfInBounds_toArray, List.set_cons_zero, List.set_cons_succ, i64_w, i32_w]
                              rfl
                            refine pure_ (i := 10) (N := some 142) (v := ?_) (a' := ?_) #[true, true, true, true, true, true, true, true, true, true, true, false, true, false, false, false] rfl rfl (by kernel_rfl) (fun _ _ _ h => h) (Or.inl ⟨by rfl, ?_⟩) ?_ ?_
                            rotate_left
                            · intro w'
                              go_simp
                              with_reducible rfl
                            rotate_left
                            · simp only [Act.put, List.setIfInBounds_toArray, List.set_cons_zero, List.set_cons_succ, i64_w, i32_w]
                              rfl
                            refine take_ (i := 11) (N := some 143) (v := ?_) (a' := ?_) #[true, true, true, true, true, true, true, true, true, true, true, true, true, false, false, false] rfl rfl (by kernel_rfl) (fun _ _ _ h => h) (Or.inl ⟨by rfl, ?_⟩) hHeld ?_ ?_
                            rotate_left
                            · rintro w' ⟨s0, s1⟩
                              go_simp
                              with_reducible rfl
                            rotate_left
                            · simp only [Act.put, List.setIfInBounds_toArray, List.set_cons_zero, List.set_cons_succ, i64_w, i32_w]
                              rfl
                            refine one_ (i := 13) (N := some 145) #[true, true, true, true, true, true, true, true, true, true, true, true, true, true, false, false] rfl rfl (by kernel_rfl) (by decide) (fun K hK => ?_)
                            refine goes_ Try.func16 (by kernel_rfl) rfl #[.int .i64 (M2 c k), .int .i64 b] (by rfl) rfl rfl (by simp only [List.map_toArray, List.map_cons, List.map_nil]; rfl) ?_
                            with_reducible refine (r_Mul.calls (M2 c k) b _ _ rfl).mono ?_
                            rintro e w' ⟨rfl, ⟨nd, rfl⟩⟩
                            refine ⟨_, rfl, ?_⟩
                            have HM5 := Lib.hid (HM1.out.drewN nd)
                            have HB5 := Lib.hid (pw_below_drewN HB1.out nd)
                            have sr := HM5.out.mat.cel c k hcR hkn
                            have sf := HM5.out.mat.frc c k hcR hkn
                            refine hK.out _ _ ⟨hHeld.1, hHeld.2⟩ (fun hHeld => ?_)
                            clear hK K
                            refine norm_ (a' := ?_) ?_ ?_
                            rotate_left
                            · show Act.put _ (some 145) _ = _
                              simp only [Act.put, List.setIfInBounds_toArray, List.set_cons_zero, List.set_cons_succ, i64_w, i32_w]
                              rfl
                            refine pure_ (i := 14) (N := some 146) (v := ?_) (a' := ?_) #[true, true, true, true, true, true, true, true, true, true, true, true, true, true, true, false] rfl rfl (by kernel_rfl) (fun _ _ _ h => h) (Or.inl ⟨by rfl, ?_⟩) ?_ ?_
                            rotate_left
                            · intro w'
                              go_simp
                              with_reducible rfl
                            rotate_left
                            · simp only [Act.put, List.setIfInBounds_toArray, List.set_cons_zero, List.set_cons_succ, i64_w, i32_w]
                              rfl
                            refine last_ (i := 15) (N := none) #[true, true, true, true, true, true, true, true, true, true, true, true, true, true, true, true] rfl rfl (by kernel_rfl) (by decide) (fun K hK => ?_)
                            refine skip_ (w1 := ?_) (by rfl) rfl ?_ ?_
                            rotate_left
                            · go_simp
                              rfl
                            refine hK.out _ _ ?_
                            clear hK K
                            refine done_ (by kernel_rfl) ?_
                            have HM6 := Lib.hid (Tl.set HM5.out c k hcR hkn (mulI (M2 c k) b) (isEl_mulI _ _))
                            have HB6 := Lib.hid (HB5.out.setCell (p := ⟨h2 c, k, none⟩) (HM5.out.mat.lo c hcR) (.int .i64 (mulI (M2 c k) b)))
                            clear sr sf HM5 HB5 hHeld HM1 HB1
                            generalize (w5.drewN nd).setCell ⟨h2 c, k, none⟩ (.int .i64 (mulI (M2 c k) b)) = w6 at HM6 HB6 ⊢
                            go_wp2
                            go_roundw
                            case rel => exact ⟨k + 1, by omega, by go_num, Lib.hid (by rw [← scaleTo_succ]; exact HM6.out), HB6⟩
                            case measure => simp [intOf]; omega
                          · obtain rfl : k = l1.length + 1 := by omega
                            obtain ⟨M3, hM3⟩ : ∃ x, x = scaleTo M2 c b (l1.length + 1) := ⟨_, rfl⟩
                            rw [← hM3] at HM
                            have HF := Lib.hid hM3
                            clear hM3
                            go_wp2
                            go_loopw [18] (fun v wr => ∃ i : Nat, i ≤ x9_2.length ∧ v = .int .i64 i ∧ Hid (Tl wr w.heap.size g x9_2.length (l1.length + 1) h2 cc2 (elimTo M3 c i) 3 go co5 x7_1.length x7_1) ∧ Hid (Below w.heap.size w wr)) (fun v _ => x9_2.length - (intOf v).toNat)
                            case atStart => exact ⟨0, Nat.zero_le _, rfl, Lib.hid (by rw [elimTo_zero]; exact HM.out), HB⟩
                            case round =>
                              clear HM HB fo
                              obtain ⟨i, hi, rfl, HM, HB⟩ := hrel
                              obtain ⟨w7, rfl⟩ : ∃ x : World, x = wr := ⟨_, rfl⟩
                              by_cases hiR : i < x9_2.length
                              · have fo := HM.out.mat.out i hiR
                                have fe : w7.cell? ⟨h2 i, c, none⟩ = some (.int .i64 (M3 i c)) := by have := HM.out.mat.cel i c hiR (by omega); rwa [elimTo_at] at this
                                by_cases hic : i = c
                                · have hb : ((i : Int) != (c : Int)) = false := by simp; omega
                                  have HK := Lib.hid (elimTo_skip M3 c i (.inl hic))
                                  clear hic
                                  go_wp2
                                  go_loopw [20] (fun v wr => v = .int .i64 0 ∧ wr = w7) (fun _ _ => 0)
                                  case atStart => exact ⟨rfl, rfl⟩
                                  case round =>
                                    obtain ⟨rfl, rfl⟩ := hrel
                                    have fc := HM.out.mat.out c hcR
                                    clear fo fe
                                    go_wp2
                                    go_roundw
                                    case rel => exact ⟨i + 1, by omega, by go_num, Lib.hid (by rw [HK.out]; exact HM.out), HB⟩
                                    case measure => simp [intOf]; omega
                                · have hb : ((i : Int) != (c : Int)) = true := by simp; omega
                                  have hel := Lib.hid (fun k (hk : k < l1.length + 1) => (show isEl (M3 i k) = true from by have := HM.out.el i k hiR hk; rwa [elimTo_at] at this))
                                  go_wp2
                                  go_loopw [20] (fun v wr => ∃ k : Nat, k ≤ l1.length + 1 ∧ v = .int .i64 k ∧ Hid (Tl wr w.heap.size g x9_2.length (l1.length + 1) h2 cc2 (elimToK M3 c i k) 3 go co5 x7_1.length x7_1) ∧ Hid (Below w.heap.size w wr)) (fun v _ => l1.length + 1 - (intOf v).toNat)
                                  case atStart => exact ⟨0, Nat.zero_le _, rfl, Lib.hid (by rw [elimToK_zero]; exact HM.out), HB⟩
                                  case round =>
                                    clear HM HB fo fe
                                    obtain ⟨k, hk, rfl, HM, HB⟩ := hrel
                                    obtain ⟨w8, rfl⟩ : ∃ x : World, x = wr := ⟨_, rfl⟩
                                    have fo := HM.out.mat.out c hcR
                                    by_cases hkn : k < l1.length + 1
                                    · go_wp2
                                      clear fo
                                      have HM1 := Lib.hid (HM.out.drew)
                                      have HB1 := Lib.hid (below_drew1 HB.out)
                                      have fi : w8.drew.cell? ⟨h2 i, k, none⟩ = some (.int .i64 (M3 i k)) := by have := HM1.out.mat.cel i k hiR hkn; rwa [elimToK_at] at this
                                      have fc : w8.drew.cell? ⟨h2 c, k, none⟩ = some (.int .i64 (M3 c k)) := by have := HM1.out.mat.cel c k hcR hkn; rwa [elimToK_piv _ _ _ _ _ hic] at this
                                      refine start_ (n := 19) (S := fun w' => w'.cell? ⟨g, i, none⟩ = some (.slice (some ⟨h2 i, 0, none⟩) (l1.length + 1) (cc2 i)) ∧ w'.cell? ⟨h2 i, k, none⟩ = some (.int .i64 (M3 i k)) ∧ w'.cell? ⟨g, c, none⟩ = some (.slice (some ⟨h2 c, 0, none⟩) (l1.length + 1) (cc2 c)) ∧ w'.cell? ⟨h2 c, k, none⟩ = some (.int .i64 (M3 c k))) (ds := [18]) #[false, false, false, false, false, false, false, false, false, false, false, false, false, false, false, false, false, false, false] (by kernel_rfl) rfl rfl ⟨HM1.out.mat.out i hiR, fi, HM1.out.mat.out c hcR, fc⟩ (fun hHeld => ?_)
                                      generalize w8.drew = w9 at HM1 HB1 hHeld ⊢
                                      clear fi fc
                                      refine pure_ (i := 0) (N := some 174) (v := ?_) (a' := ?_) #[true, false, false, false, false, false, false, false, false, false, false, false, false, false, false, false, false, false, false] rfl rfl (by kernel_rfl) (fun _ _ _ h => h) (Or.inl ⟨by rfl, ?_⟩) ?_ ?_
                                      rotate_left
                                      · intro w'
                                        go_simp
                                        with_reducible rfl
                                      rotate_left
                                      · simp only [Act.put, List.setIfInBounds_toArray, List.set_cons_zero, List.set_cons_succ, i64_w, i32_w]
                                        rfl
                                      refine pure_ (i := 1) (N := some 175) (v := ?_) (a' := ?_) #[true, true, false, false, false, false, false, false, false, false, false, false, false, false, false, false, false, false, false] rfl rfl (by kernel_rfl) (fun _ _ _ h => h) (Or.inl ⟨by rfl, ?_⟩) ?_ ?_
                                      rotate_left
                                      · intro w'
                                        go_simp
                                        with_reducible rfl
                                      rotate_left
                                      · simp only [Act.put, List.setIfInBounds_toArray, List.set_cons_zero, List.set_cons_succ, i64_w, i32_w]
                                        rfl
                                      refine pure_ (i := 2) (N := some 176) (v := ?_) (a' := ?_) #[true, true, true, false, false, false, false, false, false, false, false, false, false, false, false, false, false, false, false] rfl rfl (by kernel_rfl) (fun _ _ _ h => h) (Or.inl ⟨by rfl, ?_⟩) ?_ ?_
                                      rotate_left
                                      · intro w'
                                        go_simp
                                        with_reducible rfl
                                      rotate_left
                                      · simp only [Act.put, List.setIfInBounds_toArray, List.set_cons_zero, List.set_cons_succ, i64_w, i32_w]
                                        rfl
                                      refine pure_ (i := 4) (N := some 178) (v := ?_) (a' := ?_) #[true, true, true, false, true, false, false, false, false, false, false, false, false, false, false, false, false, false, false] rfl rfl (by kernel_rfl) (fun _ _ _ h => h) (Or.inl ⟨by rfl, ?_⟩) ?_ ?_
                                      rotate_left
                                      · intro w'
                                        go_simp
                                        with_reducible rfl
                                      rotate_left
                                      · simp only [Act.put, List.setIfInBounds_toArray, List.set_cons_zero, List.set_cons_succ, i64_w, i32_w]
                                        rfl
                                      refine pure_ (i := 7) (N := some 181) (v := ?_) (a' := ?_) #[true, true, true, false, true, false, false, true, false, false, false, false, false, false, false, false, false, false, false] rfl rfl (by kernel_rfl) (fun _ _ _ h => h) (Or.inl ⟨by rfl, ?_⟩) ?_ ?_
                                      rotate_left
                                      · intro w'
                                        go_simp
                                        with_reducible rfl
                                      rotate_left
                                      · simp only [Act.put, List.setIfInBounds_toArray, List.set_cons_zero, List.set_cons_succ, i64_w, i32_w]
                                        rfl
                                      refine pure_ (i := 8) (N := some 182) (v := ?_) (a' := ?_) #[true, true, true, false, true, false, false, true, true, false, false, false, false, false, false, false, false, false, false] rfl rfl (by kernel_rfl) (fun _ _ _ h => h) (Or.inl ⟨by rfl, ?_⟩) ?_ ?_
                                      rotate_left
                                      · intro w'
                                        go_simp
                                        with_reducible rfl
                                      rotate_left
                                      · simp only [Act.put, List.setIfInBounds_toArray, List.set_cons_zero, List.set_cons_succ, i64_w, i32_w]
                                        rfl
                                      refine pure_ (i := 9) (N := some 183) (v := ?_) (a' := ?_) #[true, true, true, false, true, false, false, true, true, true, false, false, false, false, false, false, false, false, false] rfl rfl (by kernel_rfl) (fun _ _ _ h => h) (Or.inl ⟨by rfl, ?_⟩) ?_ ?_
                                      rotate_left
                                      · intro w'
                                        go_simp
                                        with_reducible rfl
                                      rotate_left
                                      · simp only [Act.put, List.setIfInBounds_toArray, List.set_cons_zero, List.set_cons_succ, i64_w, i32_w]
                                        rfl
                                      refine pure_ (i := 11) (N := some 185) (v := ?_) (a' := ?_) #[true, true, true, false, true, false, false, true, true, true, false, true, false, false, false, false, false, false, false] rfl rfl (by kernel_rfl) (fun _ _ _ h => h) (Or.inl ⟨by rfl, ?_⟩) ?_ ?_
                                      rotate_left
                                      · intro w'
                                        go_simp
                                        with_reducible rfl
                                      rotate_left
                                      · simp only [Act.put, List.setIfInBounds_toArray, List.set_cons_zero, List.set_cons_succ, i64_w, i32_w]
                                        rfl
                                      refine pure_ (i := 14) (N := some 188) (v := ?_) (a' := ?_) #[true, true, true, false, true, false, false, true, true, true, false, true, false, false, true, false, false, false, false] rfl rfl (by kernel_rfl) (fun _ _ _ h => h) (Or.inl ⟨by rfl, ?_⟩) ?_ ?_
                                      rotate_left
                                      · intro w'
                                        go_simp
                                        with_reducible rfl
                                      rotate_left
                                      · simp only [Act.put, List.setIfInBounds_toArray, List.set_cons_zero, List.set_cons_succ, i64_w, i32_w]
                                        rfl
                                      refine take_ (i := 3) (N := some 177) (v := ?_) (a' := ?_) #[true, true, true, true, true, false, false, true, true, true, false, true, false, false, true, false, false, false, false] rfl rfl (by kernel_rfl) (fun _ _ _ h => h) (Or.inl ⟨by rfl, ?_⟩) hHeld ?_ ?_
                                      rotate_left
                                      · rintro w' ⟨s0, s1, s2, s3⟩
                                        go_simp
                                        with_reducible rfl
                                      rotate_left
                                      · simp only [Act.put, List.setIfInBounds_toArray, List.set_cons_zero, List.set_cons_succ, i64_w, i32_w]
                                        rfl
                                      refine pure_ (i := 5) (N := some 179) (v := ?_) (a' := ?_) #[true, true, true, true, true, true, false, true, true, true, false, true, false, false, true, false, false, false, false] rfl rfl (by kernel_rfl) (fun _ _ _ h => h) (Or.inl ⟨by rfl, ?_⟩) ?_ ?_
                                      rotate_left
                                      · intro w'
                                        go_simp
                                        with_reducible rfl
                                      rotate_left
                                      · simp only [Act.put, List.setIfInBounds_toArray, List.set_cons_zero, List.set_cons_succ, i64_w, i32_w]
                                        rfl
                                      refine take_ (i := 6) (N := some 180) (v := ?_) (a' := ?_) #[true, true, true, true, true, true, true, true, true, true, false, true, false, false, true, false, false, false, false] rfl rfl (by kernel_rfl) (fun _ _ _ h => h) (Or.inl ⟨by rfl, ?_⟩) hHeld ?_ ?_
                                      rotate_left
                                      · rintro w' ⟨s0, s1, s2, s3⟩
                                        go_simp
                                        with_reducible rfl
                                      rotate_left
                                      · simp only [Act.put, List.setIfInBounds_toArray, List.set_cons_zero, List.set_cons_succ, i64_w, i32_w]
                                        rfl
                                      refine take_ (i := 10) (N := some 184) (v := ?_) (a' := ?_) #[true, true, true, true, true, true, true, true, true, true, true, true, false, false, true, false, false, false, false] rfl rfl (by kernel_rfl) (fun _ _ _ h => h) (Or.inl ⟨by rfl, ?_⟩) hHeld ?_ ?_
                                      rotate_left
                                      · rintro w' ⟨s0, s1, s2, s3⟩
                                        go_simp
                                        with_reducible rfl
                                      rotate_left
                                      · simp only [Act.put, List.setIfInBounds_toArray, List.set_cons_zero, List.set_cons_succ, i64_w, i32_w]
                                        rfl
                                      refine pure_ (i := 12) (N := some 186) (v := ?_) (a' := ?_) #[true, true, true, true, true, true, true, true, true, true, true, true, true, false, true, false, false, false, false] rfl rfl (by kernel_rfl) (fun _ _ _ h => h) (Or.inl ⟨by rfl, ?_⟩) ?_ ?_
                                      rotate_left
                                      · intro w'
                                        go_simp
                                        with_reducible rfl
                                      rotate_left
                                      · simp only [Act.put, List.setIfInBounds_toArray, List.set_cons_zero, List.set_cons_succ, i64_w, i32_w]
                                        rfl
                                      refine take_ (i := 13) (N := some 187) (v := ?_) (a' := ?_) #[true, true, true, true, true, true, true, true, true, true, true, true, true, true, true, false, false, false, false] rfl rfl (by kernel_rfl) (fun _ _ _ h => h) (Or.inl ⟨by rfl, ?_⟩) hHeld ?_ ?_
                                      rotate_left
                                      · rintro w' ⟨s0, s1, s2, s3⟩
                                        go_simp
                                        with_reducible rfl
                                      rotate_left
                                      · simp only [Act.put, List.setIfInBounds_toArray, List.set_cons_zero, List.set_cons_succ, i64_w, i32_w]
                                        rfl
                                      refine one_ (i := 15) (N := some 189) #[true, true, true, true, true, true, true, true, true, true, true, true, true, true, true, true, false, false, false] rfl rfl (by kernel_rfl) (by decide) (fun K hK => ?_)
                                      refine goes_ Try.func16 (by kernel_rfl) rfl #[.int .i64 (M3 c k), .int .i64 (M3 i c)] (by rfl) rfl rfl (by simp only [List.map_toArray, List.map_cons, List.map_nil]; rfl) ?_
                                      with_reducible refine (r_Mul.calls (M3 c k) (M3 i c) _ _ rfl).mono ?_
                                      rintro e w' ⟨rfl, ⟨nd, rfl⟩⟩
                                      refine ⟨_, rfl, ?_⟩
                                      have HM5 := Lib.hid (HM1.out.drewN nd)
                                      have HB5 := Lib.hid (pw_below_drewN HB1.out nd)
                                      generalize w9.drewN nd = w10 at HM5 HB5 ⊢
                                      have sr := HM5.out.mat.cel i k hiR hkn
                                      have sf := HM5.out.mat.frc i k hiR hkn
                                      refine hK.out _ _ ⟨HM5.out.mat.out i hiR, by have := HM5.out.mat.cel i k hiR hkn; rwa [elimToK_at] at this, HM5.out.mat.out c hcR, by have := HM5.out.mat.cel c k hcR hkn; rwa [elimToK_piv _ _ _ _ _ hic] at this⟩ (fun hHeld => ?_)
                                      clear hK K
                                      refine norm_ (a' := ?_) ?_ ?_
                                      rotate_left
                                      · show Act.put _ (some 189) _ = _
                                        simp only [Act.put, List.setIfInBounds_toArray, List.set_cons_zero, List.set_cons_succ, i64_w, i32_w]
                                        rfl
                                      refine pure_ (i := 16) (N := some 190) (v := ?_) (a' := ?_) #[true, true, true, true, true, true, true, true, true, true, true, true, true, true, true, true, true, false, false] rfl rfl (by kernel_rfl) (fun _ _ _ h => h) (Or.inl ⟨by rfl, ?_⟩) ?_ ?_
                                      rotate_left
                                      · intro w'
                                        go_simp
                                        with_reducible rfl
                                      rotate_left
                                      · simp only [Act.put, List.setIfInBounds_toArray, List.set_cons_zero, List.set_cons_succ, i64_w, i32_w]
                                        rfl
                                      refine pure_ (i := 17) (N := some 191) (v := ?_) (a' := ?_) #[true, true, true, true, true, true, true, true, true, true, true, true, true, true, true, true, true, true, false] rfl rfl (by kernel_rfl) (fun _ _ _ h => h) (Or.inl ⟨by rfl, ?_⟩) ?_ ?_
                                      rotate_left
                                      · intro w'
                                        go_simp
                                        with_reducible rfl
                                      rotate_left
                                      · simp only [Act.put, List.setIfInBounds_toArray, List.set_cons_zero, List.set_cons_succ, i64_w, i32_w]
                                        rfl
                                      refine last_ (i := 18) (N := none) #[true, true, true, true, true, true, true, true, true, true, true, true, true, true, true, true, true, true, true] rfl rfl (by kernel_rfl) (by decide) (fun K hK => ?_)
                                      refine skip_ (w1 := ?_) (by rfl) rfl ?_ ?_
                                      rotate_left
                                      · go_simp
                                        rfl
                                      refine hK.out _ _ ?_
                                      clear hK K
                                      refine done_ (by kernel_rfl) ?_
                                      have HM6 := Lib.hid (show Tl (w10.setCell ⟨h2 i, k, none⟩ (.int .i64 (Go.bits .xor .i64 (M3 i k) (mulI (M3 c k) (M3 i c))))) w.heap.size g x9_2.length (l1.length + 1) h2 cc2 (elimToK M3 c i (k + 1)) 3 go co5 x7_1.length x7_1 from by rw [← elimToK_succ, mulI_comm (M3 i c)]; exact Tl.set HM5.out i k hiR hkn _ (isEl_xorI (hel.out k hkn) (isEl_mulI _ _)))
                                      have HB6 := Lib.hid (HB5.out.setCell (p := ⟨h2 i, k, none⟩) (HM5.out.mat.lo i hiR) (.int .i64 (Go.bits .xor .i64 (M3 i k) (mulI (M3 c k) (M3 i c)))))
                                      clear sr sf HM5 HB5 hHeld HM1 HB1
                                      generalize w10.setCell ⟨h2 i, k, none⟩ (.int .i64 (Go.bits .xor .i64 (M3 i k) (mulI (M3 c k) (M3 i c)))) = w11 at HM6 HB6 ⊢
                                      go_wp2
                                      refine ⟨?_, ?measure⟩
                                      iterate 33 (apply Exists.intro)
                                      refine ⟨?rel, ?fr⟩
                                      case fr => rfl
                                      case rel => exact ⟨k + 1, by omega, by go_num, HM6, HB6⟩
                                      case measure => simp [intOf]; omega
                                    · obtain rfl : k = l1.length + 1 := by omega
                                      go_wp2
                                      go_roundw
                                      case rel => exact ⟨i + 1, by omega, by go_num, Lib.hid (HM.out.congr (fun i' k' _ hk' => elimToK_all2 M3 c i x9_2.length (l1.length + 1) hic hel.out i' k' hk')), HB⟩
                                      case measure => simp [intOf]; omega
                              · obtain rfl : i = x9_2.length := by omega
                                go_wp2
                                go_roundw
                                case rel => exact ⟨c + 1, by omega, by go_num, h2, cc2, stepI M1 c r, Lib.hid (by rw [gjI, HG.out]; have hp := pivot_eq hr1 hr2 HZ.out (fun _ => HZ1.out); simp only [hp]; rw [if_neg (by omega)]), Lib.hid (HM.out.congr (fun i' k' hi' hk' => by rw [elimTo_all M3 (scaleI M2 c b) c x9_2.length (l1.length + 1) (fun i k hk => by rw [HF.out]; exact scaleTo_all M2 c b (l1.length + 1) i k hk) (by omega) i' k' hi' hk']; unfold stepI; rw [← HE.out, ← HI.out])), HB⟩
                                case measure => simp [intOf]; omega
                    · have hb : ((r : Int) == (x9_2.length : Int)) = true := beq_iff_eq.2 (by omega)
                      have hs := Lib.hid (g_tail.none A27.out (by rw [← H6.out, ← HMM.out]; exact gjI_none_end HG.out (by have := pivot_eq hr1 hr2 HZ.out (fun h => absurd h hrR); rw [this]; omega) hcn))
                      go_wp2
                      go_ret2
                      exact ⟨_, by rw [hs.out.2]; rfl, by rw [hs.out.1]; exact Kd.R_nil _ _ _ _ _, HB.out⟩
                · obtain rfl : c = l1.length := by omega
                  have hs := Lib.hid (g_tail.some A27.out (by rw [← H6.out, ← HMM.out]; exact HG.out))
                  go_wp2
                  go_loopw [21] (fun v wr => ∃ i : Nat, i ≤ l1.length ∧ v = .int .i64 i ∧ Hid (Tl wr w.heap.size g x9_2.length (l1.length + 1) h cc M1 3 go co5 x7_1.length (tailTo l1 M1 i x7_1)) ∧ Hid (Below w.heap.size w wr)) (fun v _ => l1.length - (intOf v).toNat)
                  case atStart => exact ⟨0, Nat.zero_le _, rfl, HT, HB⟩
                  case round =>
                    clear HT HB
                    obtain ⟨i, hi, rfl, HT, HB⟩ := hrel
                    obtain ⟨w2, rfl⟩ : ∃ x : World, x = wr := ⟨_, rfl⟩
                    by_cases hin : i < l1.length
                    · have hiR : i < x9_2.length := by have := H6.out; have := HN.out; omega
                      have hq1 := eq_true (show ((l1.length : Int) < (l1.length : Int) + 1) from by omega)
                      have hp0 := eq_true (HP.out i hin).1
                      have hp1 := eq_true (HP.out i hin).2
                      obtain ⟨adp, ep, hxp⟩ := Kd.at_int HR1.out (i : Int) (by omega) (by omega)
                      cases ep
                      replace hxp := (HB.out.cell (World.block_lt_of_cell? w _ hxp)).trans hxp
                      rw [Int.toNat_natCast] at hxp
                      go_wp2
                      have HT1 := Lib.hid HT.out.drew
                      have HB1 := Lib.hid (below_drew1 HB.out)
                      refine start_ (n := 15) (S := fun w' => w'.cell? (adp.add i) = some (.int .i64 (rd l1 (i : Int))) ∧ w'.cell? ⟨g, i, none⟩ = some (.slice (some ⟨h i, 0, none⟩) (l1.length + 1) (cc i)) ∧ w'.cell? ⟨h i, l1.length, none⟩ = some (.int .i64 (M1 i l1.length))) (ds := [14]) #[false, false, false, false, false, false, false, false, false, false, false, false, false, false, false] (by kernel_rfl) rfl rfl ⟨hxp, HT1.out.mat.out i hiR, HT1.out.mat.cel i l1.length hiR (by omega)⟩ (fun hHeld => ?_)
                      generalize w2.drew = w5 at HT1 HB1 hHeld ⊢
                      clear hxp
                      obtain ⟨sr, sf⟩ := Kd.R_celln 0 HT1.out.row (rd l1 (i : Int)) (of_eq_true hp0) (of_eq_true hp1)
                      refine pure_ (i := 0) (N := some 198) (v := ?_) (a' := ?_) #[true, false, false, false, false, false, false, false, false, false, false, false, false, false, false] rfl rfl (by kernel_rfl) (fun _ _ _ h => h) (Or.inl ⟨by rfl, ?_⟩) ?_ ?_
                      rotate_left
                      · intro w'
                        go_simp
                        with_reducible rfl
                      rotate_left
                      · simp only [Act.put, List.setIfInBounds_toArray, List.set_cons_zero, List.set_cons_succ, i64_w, i32_w]
                        rfl
                      refine pure_ (i := 1) (N := some 199) (v := ?_) (a' := ?_) #[true, true, false, false, false, false, false, false, false, false, false, false, false, false, false] rfl rfl (by kernel_rfl) (fun _ _ _ h => h) (Or.inl ⟨by rfl, ?_⟩) ?_ ?_
                      rotate_left
                      · intro w'
                        go_simp
                        with_reducible rfl
                      rotate_left
                      · simp only [Act.put, List.setIfInBounds_toArray, List.set_cons_zero, List.set_cons_succ, i64_w, i32_w]
                        rfl
                      refine pure_ (i := 2) (N := some 200) (v := ?_) (a' := ?_) #[true, true, true, false, false, false, false, false, false, false, false, false, false, false, false] rfl rfl (by kernel_rfl) (fun _ _ _ h => h) (Or.inl ⟨by rfl, ?_⟩) ?_ ?_
                      rotate_left
                      · intro w'
                        go_simp
                        with_reducible rfl
                      rotate_left
                      · simp only [Act.put, List.setIfInBounds_toArray, List.set_cons_zero, List.set_cons_succ, i64_w, i32_w]
                        rfl
                      refine pure_ (i := 3) (N := some 201) (v := ?_) (a' := ?_) #[true, true, true, true, false, false, false, false, false, false, false, false, false, false, false] rfl rfl (by kernel_rfl) (fun _ _ _ h => h) (Or.inl ⟨by rfl, ?_⟩) ?_ ?_
                      rotate_left
                      · intro w'
                        go_simp
                        with_reducible rfl
                      rotate_left
                      · simp only [Act.put, List.setIfInBounds_toArray, List.set_cons_zero, List.set_cons_succ, i64_w, i32_w]
                        rfl
                      refine pure_ (i := 5) (N := some 203) (v := ?_) (a' := ?_) #[true, true, true, true, false, true, false, false, false, false, false, false, false, false, false] rfl rfl (by kernel_rfl) (fun _ _ _ h => h) (Or.inl ⟨by rfl, ?_⟩) ?_ ?_
                      rotate_left
                      · intro w'
                        go_simp
                        with_reducible rfl
                      rotate_left
                      · simp only [Act.put, List.setIfInBounds_toArray, List.set_cons_zero, List.set_cons_succ, i64_w, i32_w]
                        rfl
                      refine pure_ (i := 6) (N := some 204) (v := ?_) (a' := ?_) #[true, true, true, true, false, true, true, false, false, false, false, false, false, false, false] rfl rfl (by kernel_rfl) (fun _ _ _ h => h) (Or.inl ⟨by rfl, ?_⟩) ?_ ?_
                      rotate_left
                      · intro w'
                        go_simp
                        with_reducible rfl
                      rotate_left
                      · simp only [Act.put, List.setIfInBounds_toArray, List.set_cons_zero, List.set_cons_succ, i64_w, i32_w]
                        rfl
                      refine pure_ (i := 7) (N := some 205) (v := ?_) (a' := ?_) #[true, true, true, true, false, true, true, true, false, false, false, false, false, false, false] rfl rfl (by kernel_rfl) (fun _ _ _ h => h) (Or.inl ⟨by rfl, ?_⟩) ?_ ?_
                      rotate_left
                      · intro w'
                        go_simp
                        with_reducible rfl
                      rotate_left
                      · simp only [Act.put, List.setIfInBounds_toArray, List.set_cons_zero, List.set_cons_succ, i64_w, i32_w]
                        rfl
                      refine pure_ (i := 9) (N := some 207) (v := ?_) (a' := ?_) #[true, true, true, true, false, true, true, true, false, true, false, false, false, false, false] rfl rfl (by kernel_rfl) (fun _ _ _ h => h) (Or.inl ⟨by rfl, ?_⟩) ?_ ?_
                      rotate_left
                      · intro w'
                        go_simp
                        with_reducible rfl
                      rotate_left
                      · simp only [Act.put, List.setIfInBounds_toArray, List.set_cons_zero, List.set_cons_succ, i64_w, i32_w]
                        rfl
                      refine pure_ (i := 10) (N := some 208) (v := ?_) (a' := ?_) #[true, true, true, true, false, true, true, true, false, true, true, false, false, false, false] rfl rfl (by kernel_rfl) (fun _ _ _ h => h) (Or.inl ⟨by rfl, ?_⟩) ?_ ?_
                      rotate_left
                      · intro w'
                        go_simp
                        with_reducible rfl
                      rotate_left
                      · simp only [Act.put, List.setIfInBounds_toArray, List.set_cons_zero, List.set_cons_succ, i64_w, i32_w]
                        rfl
                      refine take_ (i := 4) (N := some 202) (v := ?_) (a' := ?_) #[true, true, true, true, true, true, true, true, false, true, true, false, false, false, false] rfl rfl (by kernel_rfl) (fun _ _ _ h => h) (Or.inl ⟨by rfl, ?_⟩) hHeld ?_ ?_
                      rotate_left
                      · rintro w' ⟨s0, s1, s2⟩
                        go_simp
                        with_reducible rfl
                      rotate_left
                      · simp only [Act.put, List.setIfInBounds_toArray, List.set_cons_zero, List.set_cons_succ, i64_w, i32_w]
                        rfl
                      refine take_ (i := 8) (N := some 206) (v := ?_) (a' := ?_) #[true, true, true, true, true, true, true, true, true, true, true, false, false, false, false] rfl rfl (by kernel_rfl) (fun _ _ _ h => h) (Or.inl ⟨by rfl, ?_⟩) hHeld ?_ ?_
                      rotate_left
                      · rintro w' ⟨s0, s1, s2⟩
                        go_simp
                        with_reducible rfl
                      rotate_left
                      · simp only [Act.put, List.setIfInBounds_toArray, List.set_cons_zero, List.set_cons_succ, i64_w, i32_w]
                        rfl
                      refine pure_ (i := 11) (N := some 209) (v := ?_) (a' := ?_) #[true, true, true, true, true, true, true, true, true, true, true, true, false, false, false] rfl rfl (by kernel_rfl) (fun _ _ _ h => h) (Or.inl ⟨by rfl, ?_⟩) ?_ ?_
                      rotate_left
                      · intro w'
                        go_simp
                        with_reducible rfl
                      rotate_left
                      · simp only [Act.put, List.setIfInBounds_toArray, List.set_cons_zero, List.set_cons_succ, i64_w, i32_w]
                        rfl
                      refine take_ (i := 12) (N := some 210) (v := ?_) (a' := ?_) #[true, true, true, true, true, true, true, true, true, true, true, true, true, false, false] rfl rfl (by kernel_rfl) (fun _ _ _ h => h) (Or.inl ⟨by rfl, ?_⟩) hHeld ?_ ?_
                      rotate_left
                      · rintro w' ⟨s0, s1, s2⟩
                        go_simp
                        with_reducible rfl
                      rotate_left
                      · simp only [Act.put, List.setIfInBounds_toArray, List.set_cons_zero, List.set_cons_succ, i64_w, i32_w]
                        rfl
                      refine pure_ (i := 13) (N := some 211) (v := ?_) (a' := ?_) #[true, true, true, true, true, true, true, true, true, true, true, true, true, true, false] rfl rfl (by kernel_rfl) (fun _ _ _ h => h) (Or.inl ⟨by rfl, ?_⟩) ?_ ?_
                      rotate_left
                      · intro w'
                        go_simp
                        with_reducible rfl
                      rotate_left
                      · simp only [Act.put, List.setIfInBounds_toArray, List.set_cons_zero, List.set_cons_succ, i64_w, i32_w]
                        rfl
                      refine last_ (i := 14) (N := none) #[true, true, true, true, true, true, true, true, true, true, true, true, true, true, true] rfl rfl (by kernel_rfl) (by decide) (fun K hK => ?_)
                      refine skip_ (w1 := ?_) (by rfl) rfl ?_ ?_
                      rotate_left
                      · go_simp
                        rfl
                      refine hK.out _ _ ?_
                      clear hK K
                      refine done_ (by kernel_rfl) ?_
                      have HT3 := Lib.hid (Tl.put HT1.out (rd l1 (i : Int)) (M1 i l1.length))
                      have HB3 := Lib.hid (HB1.out.setCell (p := ⟨go, (rd l1 (i : Int)).toNat, none⟩) HGO.out (.int .i64 (M1 i l1.length)))
                      clear sr sf HT1 HB1 hHeld
                      generalize w5.setCell ⟨go, (rd l1 (i : Int)).toNat, none⟩ (.int .i64 (M1 i l1.length)) = w6 at HT3 HB3 ⊢
                      go_wp2
                      go_roundw
                      case rel => exact ⟨i + 1, by omega, by go_num, HT3, HB3⟩
                      case measure => simp [intOf]; omega
                    · obtain rfl : i = l1.length := by omega
                      have hC := r_Cod.calls (some ⟨go, 0, none⟩) co5 (tailTo l1 M1 l1.length x7_1) (isCode (tailTo l1 M1 l1.length x7_1)) w2 (Kd.R_reads' HT.out.row).2.2 (by have := (Kd.R_reads' HT.out.row).2.1; rw [tailTo_length]; exact this) rfl
                      rw [tailTo_length] at hC
                      have HC := Lib.hid hC
                      clear hC
                      go_wp2_with (first | ((with_reducible refine gate_callee (f := 33) rfl ?_); refine goesL_ (some 214) rfl rfl Try.func33 (by kernel_rfl) rfl #[.slice (some ⟨go, 0, none⟩) x7_1.length co5] rfl (by (try simp only [List.map_toArray, List.map_cons, List.map_nil]); first | done | rfl) ?_; (with_reducible refine HC.out.mono ?_); rintro e w9 ⟨rfl, hb⟩; refine ⟨_, rfl, ?_⟩; have HB9 := Lib.hid hb; clear hb))
                      go_ret2
                      exact ⟨_, by rw [hs.out.2]; rfl, by rw [hs.out.1]; exact Kd.R_mono (Kd.R_below HT.out.row HB9.out) (fun _ _ => trivial), below_step HB.out HB9.out⟩
end Go.Proofs.Ytpkhgapifnjbeaa.R
end
section
namespace Go.Proofs.Ytpkhgapifnjbeaa.R
open Go.RowKit Go.Proofs.Ytpkhgapifnjbeaa.G Go.Proofs.Ytpkhgapifnjbeaa.Rs Go.Proofs.YtpkhgapifnjbeaaW.PrintWords Go.Proofs.YtpkhgapifnjbeaaW.PrintLast Go.Proofs.YtpkhgapifnjbeaaW.PrintMore
attribute [local go_sem] max2_int min2_int max_two min_two max_three min_three max_four min_four
set_option linter.unusedVariables false
set_option linter.unusedSimpArgs false
end Go.Proofs.Ytpkhgapifnjbeaa.R
end
section
namespace Go.Proofs.Ytpkhgapifnjbeaa.K
open Go.RowKit Go.Proofs.Ytpkhgapifnjbeaa.G Go.Proofs.YtpkhgapifnjbeaaW.PrintWords Go.Proofs.YtpkhgapifnjbeaaW.PrintLast Go.Proofs.YtpkhgapifnjbeaaW.PrintMore
attribute [local go_sem] max2_int min2_int max_two min_two max_three min_three max_four min_four
set_option linter.unusedVariables false
set_option linter.unusedSimpArgs false
def errW : Option Int → Value
  | none => .nilIface
  | some c => .iface 0 (.int .i64 c)
theorem errW_none : errW none = .nilIface := rfl
theorem errW_some (c : Int) : errW (some c) = .iface 0 (.int .i64 c) := rfl
def rd_L1 (xs : List (List Int)) (i : Int) : (List Int) := xs.getD i.toNat ([] : List Int)
theorem at_L1 {w : World} {A : Option Addr} {n : Nat} {xs : List (List Int)} (h : Kd.C (Kd.slice 3 (Kd.int .i64)) w A n xs) (i : Int) (h0 : 0 ≤ i) (h1 : i < n) : ∃ ad A0 c0, A = some ad ∧ w.cell? (ad.add i.toNat) = some (.slice A0 (rd_L1 xs i).length c0) ∧ (rd_L1 xs i).length ≤ c0 ∧ (Kd.int .i64).C w A0 (rd_L1 xs i).length (rd_L1 xs i) := by
  obtain ⟨ad, c, e, _, hK, hc0⟩ := Kd.C_get h ([] : List Int) i h0 h1
  have hc : ∀ j u, c[j]? = some u → w.cell? (ad.add (i.toNat * 1 + j)) = some u := hc0
  obtain ⟨A0, c0, rfl, l0, g0⟩ := hK
  exact ⟨ad, A0, c0, e, by have hq := hc 0 _ rfl; rwa [Nat.mul_one, Nat.add_zero] at hq, l0, g0⟩
end Go.Proofs.Ytpkhgapifnjbeaa.K
end
section
namespace Go.Proofs.Ytpkhgapifnjbeaa.K
open Go.RowKit Go.Proofs.Ytpkhgapifnjbeaa.G Go.Proofs.YtpkhgapifnjbeaaW.PrintWords Go.Proofs.YtpkhgapifnjbeaaW.PrintLast Go.Proofs.YtpkhgapifnjbeaaW.PrintMore
attribute [local go_sem] max2_int min2_int max_two min_two max_three min_three max_four min_four
set_option linter.unusedVariables false
set_option linter.unusedSimpArgs false
def bits_Mul64.f (a0 : Int) (a1 : Int) : Option (Int × Int) := some (IntKind.u64.wrap ((IntKind.u64.wrap ((IntKind.u64.wrap ((a0 / 4294967296) * (a1 / 4294967296))) + ((IntKind.u64.wrap ((IntKind.u64.wrap ((a0 / 4294967296) * (Go.bits .and .u64 a1 4294967295))) + ((IntKind.u64.wrap ((Go.bits .and .u64 a0 4294967295) * (Go.bits .and .u64 a1 4294967295))) / 4294967296))) / 4294967296))) + ((IntKind.u64.wrap ((Go.bits .and .u64 (IntKind.u64.wrap ((IntKind.u64.wrap ((a0 / 4294967296) * (Go.bits .and .u64 a1 4294967295))) + ((IntKind.u64.wrap ((Go.bits .and .u64 a0 4294967295) * (Go.bits .and .u64 a1 4294967295))) / 4294967296))) 4294967295) + (IntKind.u64.wrap ((Go.bits .and .u64 a0 4294967295) * (a1 / 4294967296))))) / 4294967296)), IntKind.u64.wrap (a0 * a1))
set_option maxHeartbeats 8000000 in
set_option maxRecDepth 100000 in
theorem bits_Mul64.calls (a0 : Int) (a1 : Int) (r1 : Int) (r2 : Int) (w : World) (h : bits_Mul64.f a0 a1 = some (r1, r2)) :
    Calls Try.prog 68 #[.int .u64 a0, .int .u64 a1] w fun e w' => e = .returned (.tuple #[.int .u64 r1, .int .u64 r2]) ∧ Drawn0 w w' := by
  have H : (some (IntKind.u64.wrap ((IntKind.u64.wrap ((IntKind.u64.wrap ((a0 / 4294967296) * (a1 / 4294967296))) + ((IntKind.u64.wrap ((IntKind.u64.wrap ((a0 / 4294967296) * (Go.bits .and .u64 a1 4294967295))) + ((IntKind.u64.wrap ((Go.bits .and .u64 a0 4294967295) * (Go.bits .and .u64 a1 4294967295))) / 4294967296))) / 4294967296))) + ((IntKind.u64.wrap ((Go.bits .and .u64 (IntKind.u64.wrap ((IntKind.u64.wrap ((a0 / 4294967296) * (Go.bits .and .u64 a1 4294967295))) + ((IntKind.u64.wrap ((Go.bits .and .u64 a0 4294967295) * (Go.bits .and .u64 a1 4294967295))) / 4294967296))) 4294967295) + (IntKind.u64.wrap ((Go.bits .and .u64 a0 4294967295) * (a1 / 4294967296))))) / 4294967296)), IntKind.u64.wrap (a0 * a1))) = some (r1, r2) := h
  clear h
  simp only [Option.some.injEq, Prod.mk.injEq] at H
  obtain ⟨rfl, rfl⟩ := H
  go_enter Try.func68, Try.ntmps68
  go_wp2
  go_ret2
  exact ⟨by first | rfl | (simp; done) | (simp [*]; done), by repeat (first | exact Drawn0.refl _ | apply Drawn0.step)⟩
def bits_Mul.f (a0 : Int) (a1 : Int) : Option (Int × Int) := (bits_Mul64.f a0 a1).bind fun bt102 => (some (bt102.1, bt102.2))
set_option maxHeartbeats 8000000 in
set_option maxRecDepth 100000 in
theorem bits_Mul.calls (a0 : Int) (a1 : Int) (r1 : Int) (r2 : Int) (w : World) (h : bits_Mul.f a0 a1 = some (r1, r2)) :
    Calls Try.prog 58 #[.int .u64 a0, .int .u64 a1] w fun e w' => e = .returned (.tuple #[.int .u64 r1, .int .u64 r2]) ∧ Drawn0 w w' := by
  have H : ((bits_Mul64.f a0 a1).bind fun bt102 => (some (bt102.1, bt102.2))) = some (r1, r2) := h
  clear h
  replace H := Option.bind_eq_some_iff.mp H
  obtain ⟨⟨t102, t103⟩, A30, H⟩ := H
  replace H : (some (t102, t103)) = some (r1, r2) := H
  have A3 := Aside0.mk A30
  clear A30
  simp only [Option.some.injEq, Prod.mk.injEq] at H
  obtain ⟨rfl, rfl⟩ := H
  go_enter Try.func58, Try.ntmps58
  go_wp2_with (first | ((with_reducible refine gate_callee (f := 68) rfl ?_); refine goesL_ (some 25) rfl rfl Try.func68 (by kernel_rfl) rfl #[.int .u64 a0, .int .u64 a1] rfl (by (try simp only [List.map_toArray, List.map_cons, List.map_nil]); first | done | rfl | (simp only [List.length_drop, List.length_take]; rfl)) ?_; (with_reducible refine (bits_Mul64.calls a0 a1 t102 t103 _ A3.out).mono ?_); rintro e w' ⟨rfl, ⟨nd, rfl⟩⟩; refine ⟨_, rfl, ?_⟩))
  go_ret2
  exact ⟨by first | rfl | (simp; done) | (simp [*]; done), by repeat (first | exact Drawn0.refl _ | apply Drawn0.step)⟩
end Go.Proofs.Ytpkhgapifnjbeaa.K
end
section
namespace Go.Proofs.Ytpkhgapifnjbeaa.K
open Go.RowKit Go.Proofs.Ytpkhgapifnjbeaa.G Go.Proofs.YtpkhgapifnjbeaaW.PrintWords Go.Proofs.YtpkhgapifnjbeaaW.PrintLast Go.Proofs.YtpkhgapifnjbeaaW.PrintMore
attribute [local go_sem] max2_int min2_int max_two min_two max_three min_three max_four min_four
set_option linter.unusedVariables false
set_option linter.unusedSimpArgs false
end Go.Proofs.Ytpkhgapifnjbeaa.K
end
section
namespace Go.Proofs.Ytpkhgapifnjbeaa.G
set_option linter.unusedVariables false
set_option linter.unusedSimpArgs false
open Go.RowKit Go.Proofs.YtpkhgapifnjbeaaW.PrintWords Go.Proofs.YtpkhgapifnjbeaaW.PrintLast Go.Proofs.YtpkhgapifnjbeaaW.PrintMore Go.Proofs.Ytpkhgapifnjbeaa.Rs
theorem M_int0 (W : World) (base : Nat) : (Kd.int .i64).M W base (fun _ => False) (0 : Int) (Value.cells (.int .i64 0)).toList := rfl
set_option maxHeartbeats 4000000 in
set_option maxRecDepth 100000 in
theorem grow_walk (n : Nat) (h1 : 1 ≤ n) (hn : n ≤ 1000) (w : World) :
    Calls Try.prog 57 #[.slice none 0 0, .int .i64 n] w fun e w' => ∃ v : Value, e = .returned v ∧ Kd.R (Kd.int .i64) 3 w' w.heap.size (fun _ => True) v [] ∧ Below w.heap.size w w' := by
  have hw : wrap64 ((n : Int) - wrap64 ((0 : Int) - 0)) = (n : Int) := by unfold wrap64; omega
  have hw0 : wrap64 ((0 : Int) - 0) = (0 : Int) := by unfold wrap64; omega
  have hw1 : wrap64 ((n : Int) - 0) = (n : Int) := by unfold wrap64; omega
  have hk := Lib.hid hn
  go_enter Try.func57, Try.ntmps57
  go_wp2_with (first | ((with_reducible refine gate_dst (N := 22) rfl ?_); refine Kd.R_append_zeros (Kd.int .i64) w.heap.size rfl _ _ 27 3 3 (.int .i64 0) 8 rfl Try.underlying27 (k := .i64) Try.underlying3 (by kernel_rfl) rfl (by decide) (by decide) (.slice none 0 0) [] (0 : Int) (n : Int) (fun _ => True) rfl rfl (M_int0 _ _) (fun _ _ => trivial) (Kd.R_nil _ _ _ _ _) (by omega) (Below.refl _ _) (Nat.le_refl _) (by have := hk.out; simp only [List.length_nil, Int.toNat_natCast]; omega) ?_; intro v1 w1 ho hb hg hat; clear hg hat; rw [Int.toNat_natCast] at ho; obtain ⟨go, co, eo, hgo, hgl, _⟩ := Kd.R_form ho (by simp only [List.nil_append, List.length_replicate]; omega); subst eo; have HO := Lib.hid ho; have HB := Lib.hid hb; clear ho hb))
  go_ret
  exact ⟨_, rfl, Kd.R_take HO.out (Nat.zero_le _), HB.out⟩
set_option maxHeartbeats 4000000 in
set_option maxRecDepth 100000 in
theorem grow_walk0 (w : World) : Calls Try.prog 57 #[.slice none 0 0, .int .i64 (0 : Nat)] w fun e w' => e = .returned (.slice none 0 0) ∧ w = w' := by
  have hw : wrap64 ((0 : Int) - wrap64 ((0 : Int) - 0)) = (0 : Int) := by unfold wrap64; omega
  have hw0 : wrap64 ((0 : Int) - 0) = (0 : Int) := by unfold wrap64; omega
  go_enter Try.func57, Try.ntmps57
  go_wp2
  go_ret
  exact ⟨rfl, rfl⟩
theorem grow_all (n : Nat) (hn : n ≤ 1000) (w : World) :
    Calls Try.prog 57 #[.slice none 0 0, .int .i64 n] w fun e w' => ∃ v : Value, e = .returned v ∧ Kd.R (Kd.int .i64) 3 w' w.heap.size (fun _ => True) v [] ∧ Below w.heap.size w w' := by
  by_cases h1 : 1 ≤ n
  · exact grow_walk n h1 hn w
  · obtain rfl : n = 0 := by omega
    exact (grow_walk0 w).mono fun e w' ⟨he, hw⟩ => ⟨_, he, Kd.R_nil _ _ _ _ _, hw ▸ Below.refl _ _⟩
def upTo2 (a b i : Nat) : Nat := if i = 0 then 0 else if i = 1 then a else a + b
def upToL (l0 l1 : List Int) (i : Nat) : List Int := if i = 0 then [] else if i = 1 then l0 else l0 ++ l1
set_option maxHeartbeats 4000000 in
set_option maxRecDepth 100000 in
theorem concat_walk (b cb : Nat) (A0 : Option Addr) (c0 : Nat) (l0 : List Int) (A1 : Option Addr) (c1 : Nat) (l1 : List Int) (w : World) (hb0 : w.cell? ⟨b, 0, none⟩ = some (.slice A0 l0.length c0)) (hb1 : w.cell? ⟨b, 1, none⟩ = some (.slice A1 l1.length c1))
    (hr0 : Kd.C (Kd.int .i64) w A0 l0.length l0) (hc0 : l0.length ≤ c0) (hr1 : Kd.C (Kd.int .i64) w A1 l1.length l1) (hc1 : l1.length ≤ c1) (hl0 : l0.length ≤ 500) (hl1 : l1.length ≤ 500) :
    Calls Try.prog 43 #[.slice (some ⟨b, 0, none⟩) 2 cb] w fun e w' => ∃ v : Value, e = .returned v ∧ Kd.R (Kd.int .i64) 3 w' w.heap.size (fun _ => True) v (l0 ++ l1) ∧ Below w.heap.size w w' := by
  have HR0 := Lib.hid hr0
  have HR1 := Lib.hid hr1
  have HC0 := Lib.hid hc0
  have HC1 := Lib.hid hc1
  clear hr0 hr1 hc0 hc1
  go_enter Try.func43, Try.ntmps43
  go_wp2
  go_loop [3, 11] (fun v3 v11 => ∃ i : Nat, i ≤ 2 ∧ v11 = .int .i64 i ∧ v3 = .int .i64 (upTo2 l0.length l1.length i : Nat)) (fun _ v => 2 - (intOf v).toNat)
  case atStart => exact ⟨0, by omega, rfl, rfl⟩
  case round =>
    obtain ⟨i, hi, rfl, rfl⟩ := hrel
    by_cases hi2 : i < 2
    · obtain ⟨A, n, c, hcell, hlen, hup⟩ : ∃ (A : Option Addr) (n c : Nat), w.cell? ⟨b, i, none⟩ = some (.slice A n c) ∧ n ≤ 500 ∧ upTo2 l0.length l1.length (i + 1) = upTo2 l0.length l1.length i + n ∧ upTo2 l0.length l1.length i ≤ 500 := by
        rcases (show i = 0 ∨ i = 1 from by omega) with rfl | rfl
        · exact ⟨A0, l0.length, c0, hb0, hl0, by simp [upTo2], by simp [upTo2]⟩
        · exact ⟨A1, l1.length, c1, hb1, hl1, by simp [upTo2], by simp [upTo2]; omega⟩
      generalize upTo2 l0.length l1.length i = s at hup ⊢
      have hw : wrap64 ((s : Int) + (n : Int)) = ((s + n : Nat) : Int) := by unfold wrap64; omega
      have hU := Lib.hid hup.1
      clear hup
      go_wp2
      go_round
      case rel => exact ⟨i + 1, by omega, by go_num, by rw [hU.out]; first | rfl | (rw [← hw]; done) | (simp [hw]; done) | (push_cast; rfl) | trace_state⟩
      case measure => simp [intOf]; omega
    · obtain rfl : i = 2 := by omega
      have hup : upTo2 l0.length l1.length 2 = l0.length + l1.length := rfl
      rw [hup]
      obtain ⟨N, hN⟩ : ∃ N, N = l0.length + l1.length := ⟨_, rfl⟩
      rw [← hN]
      have hk := Lib.hid (show N ≤ 1000 from by omega)
      have hNN := Lib.hid hN
      clear hN hup
      go_wp2_with (first | ((with_reducible refine gate_callee (f := 57) rfl ?_); refine goesL_ (some 24) rfl rfl Try.func57 (by kernel_rfl) rfl #[.slice none 0 0, .int .i64 N] rfl (by (try simp only [List.map_toArray, List.map_cons, List.map_nil]); first | done | rfl) ?_; (with_reducible refine (grow_all N hk.out _).mono ?_); rintro e w1 ⟨v1, rfl, ho, hb⟩; refine ⟨_, rfl, ?_⟩; have HO := Lib.hid ho; have HB := Lib.hid hb; clear ho hb))
      go_loopw [6, 27] (fun v6 v27 wr => ∃ i : Nat, i ≤ 2 ∧ v27 = .int .i64 i ∧ Hid (Kd.R (Kd.int .i64) 3 wr w.heap.size (fun _ => True) v6 (upToL l0 l1 i)) ∧ Hid (Below w.heap.size w wr)) (fun _ v _ => 2 - (intOf v).toNat)
      case atStart => exact ⟨0, by omega, rfl, HO, HB⟩
      case round =>
        clear HO HB
        obtain ⟨i, hi, rfl, HO, HB⟩ := hrel
        by_cases hi2 : i < 2
        · obtain ⟨A, l, c, hcell, hread, hup, hlen⟩ : ∃ (A : Option Addr) (l : List Int) (c : Nat), wr.cell? ⟨b, i, none⟩ = some (.slice A l.length c) ∧ Hid (Kd.C (Kd.int .i64) wr A l.length l) ∧ Hid (upToL l0 l1 (i + 1) = upToL l0 l1 i ++ l) ∧ Hid ((upToL l0 l1 i).length + l.length ≤ 1000) := by
            have hlt0 := World.block_lt_of_cell? w _ hb0
            have hlt1 := World.block_lt_of_cell? w _ hb1
            rcases (show i = 0 ∨ i = 1 from by omega) with rfl | rfl
            · exact ⟨A0, l0, c0, (HB.out.cell hlt0).trans hb0, Lib.hid (Kd.C_below HR0.out HB.out), Lib.hid (by simp [upToL]), Lib.hid (by simp [upToL]; omega)⟩
            · exact ⟨A1, l1, c1, (HB.out.cell hlt1).trans hb1, Lib.hid (Kd.C_below HR1.out HB.out), Lib.hid (by simp [upToL]), Lib.hid (by simp [upToL]; omega)⟩
          obtain ⟨Ao, co, eo⟩ := Kd.R_slice HO.out
          subst eo
          go_wp2_with (first | ((with_reducible refine gate_builtin (b := .append) (xs := #[.tmp 31, .tmp 32]) rfl ?_); at_builtin; refine Kd.R_append_rows (Kd.int .i64) (w0 := w) w.heap.size rfl (.tmp 31) (.tmp 32) 27 3 (.int .i64 0) 8 rfl Try.underlying27 (by kernel_rfl) rfl (by decide) (by omega) (.slice Ao (upToL l0 l1 i).length co) (upToL l0 l1 i) l A l.length c (fun _ => True) (fun _ => False) rfl rfl HO.out hread.out (fun _ _ h => h) (fun _ h => h.elim) (fun _ _ => trivial) HB.out (below_size HB.out) (by have := hlen.out; omega) ?_; intro v2 w2 ho hb hg hat; clear hg hat; have HO1 := Lib.hid (show Kd.R (Kd.int .i64) 3 w2 w.heap.size (fun _ => True) v2 (upToL l0 l1 (i + 1)) from by rw [hup.out]; exact ho); have HB1 := Lib.hid hb; clear ho hb))
          go_roundw
          case rel => exact ⟨i + 1, by omega, by go_num, HO1, HB1⟩
          case measure => simp [intOf]; omega
        · obtain rfl : i = 2 := by omega
          go_wp2
          go_ret
          exact ⟨_, rfl, HO.out, HB.out⟩
def repL (x : Int) (k : Nat) : List Value := List.replicate k (.int .i64 x) ++ List.replicate (6 - k) (.int .i64 0)
theorem rep_one (x : Int) (m : Nat) : ∀ v ∈ List.replicate m (Value.int .i64 x), v.oneCell' = true := by
  intro v hv
  rw [(List.mem_replicate.1 hv).2]; rfl
theorem rep_len {cur : List Value} {x : Int} {k cap : Nat} (h : cur.take 6 = repL x k ∧ cur.length = cap) (hk : k ≤ 6 := by decide) : 6 ≤ cur.length := by
  have := congrArg List.length h.1
  simp only [repL, List.length_take, List.length_append, List.length_replicate] at this
  omega
theorem rep_src {w : World} {g t k cap : Nat} {cur : List Value} {x : Int} (hg : w.heap[g]? = some (.cells cur.toArray t (0, 0))) (h : cur.take 6 = repL x k ∧ cur.length = cap) (m : Nat) (hm : m ≤ k ∧ k ≤ 6) : ∀ j v, (List.replicate m (Value.int .i64 x))[j]? = some v → w.cell? ((⟨g, 0, none⟩ : Addr).add j) = some v := by
  intro j v hv
  have hj : j < m := by
    rcases Nat.lt_or_ge j m with h | h
    · exact h
    · rw [List.getElem?_eq_none (by simpa using h)] at hv; cases hv
  have h1 : (cur.take 6)[j]? = some (.int .i64 x) := by
    rw [h.1, repL, List.getElem?_append_left (by simp; omega)]
    simp [List.getElem?_replicate]; omega
  rw [List.getElem?_take, if_pos (by omega)] at h1
  have h2 : v = .int .i64 x := by
    rw [List.getElem?_replicate, if_pos hj] at hv; exact (Option.some.inj hv).symm
  have h3 := cell_of_row w g j cur.toArray t (0, 0) hg
  rw [show ((⟨g, 0, none⟩ : Addr).add j) = ⟨g, j, none⟩ from by simp [Addr.add] <;> omega, h3, h2]
  simpa using h1
theorem take_split {cur L : List Value} (h : cur.take 6 = L) : cur = L ++ cur.drop 6 := by rw [← h, List.take_append_drop]
theorem rep_next1 {cur : List Value} {x : Int} (h : cur.take 6 = repL x 1) : (splice cur 1 (List.replicate 1 (.int .i64 x))).take 6 = repL x 2 := by
  rw [take_split h]; rfl
theorem rep_next2 {cur : List Value} {x : Int} (h : cur.take 6 = repL x 2) : (splice cur 2 (List.replicate 2 (.int .i64 x))).take 6 = repL x 4 := by
  rw [take_split h]; rfl
theorem rep_next4 {cur : List Value} {x : Int} (h : cur.take 6 = repL x 4) : (splice cur 4 (List.replicate 2 (.int .i64 x))).take 6 = repL x 6 := by
  rw [take_split h]; rfl
theorem repeat_end {w : World} {base g t cap : Nat} {cur : List Value} {x : Int} (hg : w.heap[g]? = some (.cells cur.toArray t (0, 0))) (h : cur.take 6 = repL x 6 ∧ cur.length = cap) (hcap : 6 ≤ cap) (hmax : cap ≤ maxLen) (hb : base ≤ g) :
    Kd.R (Kd.int .i64) t w base (fun _ => True) (.slice (some ⟨g, 0, none⟩) 6 cap) (List.replicate 6 x) := by
  refine Kd.R_of_own ?_ (fun _ _ => trivial)
  refine ⟨by simp [encs], .inr ⟨g, cap, cur.toArray, by simp, hb, hg, ?_, ?_, ?_, ?_⟩⟩
  all_goals first | omega | exact hmax | (simp; omega; done) | (simp; omega) | exact h.1 | (rw [h.1]; rfl) | skip
set_option maxHeartbeats 4000000 in
set_option maxRecDepth 100000 in
theorem repeat_walk (A0 : Option Addr) (c : Nat) (x : Int) (w : World) (hr : Kd.C (Kd.int .i64) w A0 1 [x]) (hc : 1 ≤ c) :
    Calls Try.prog 44 #[.slice A0 1 c, .int .i64 6] w fun e w' => ∃ v : Value, e = .returned v ∧ Kd.R (Kd.int .i64) 3 w' w.heap.size (fun _ => True) v (List.replicate 6 x) ∧ Below w.heap.size w w' := by
  have HR := Lib.hid hr
  clear hr
  have hm := @Go.Proofs.Ytpkhgapifnjbeaa.K.bits_Mul.calls 1 6 0 6
  have HM := Lib.hid hm
  clear hm
  go_enter Try.func44, Try.ntmps44
  go_wp2_with (first | ((with_reducible refine gate_callee (f := 58) rfl ?_); refine goesL_ (some 18) rfl rfl Try.func58 (by kernel_rfl) rfl #[.int .u64 1, .int .u64 6] rfl (by (try simp only [List.map_toArray, List.map_cons, List.map_nil]); first | done | rfl) ?_; (with_reducible refine (HM.out _ (by decide +kernel)).mono ?_); rintro e w' ⟨rfl, ⟨nd, rfl⟩⟩; refine ⟨_, rfl, ?_⟩) | ((with_reducible refine gate_dst (N := 30) rfl ?_); refine Kd.R_make (Kd.int .i64) w.heap.size 3 rfl (N := 30) rfl 27 _ _ rfl (6 : Int) rfl rfl Try.underlying27 (.int .i64 0) 8 (by kernel_rfl) rfl (by decide) (by omega) 0 (ok := fun _ => True) (okp := fun _ => True) rfl (fun _ hk => hk) trivial (by omega) (by omega) (pw_below_drewN (Below.refl _ _) nd) (Nat.le_refl _) ?_; intro v1 w1 ho hb hg_ hnew_; clear hg_ hnew_; have HO := Lib.hid ho; have HB := Lib.hid hb; clear ho hb) | ((with_reducible refine gate_dst (N := 33) rfl ?_); refine Kd.R_copy (0 : Int) w.heap.size rfl _ _ 27 27 3 rfl Try.underlying27 (by kernel_rfl) v1 _ [x] A0 1 c (fun _ => True) rfl rfl HO.out (Kd.C_below HR.out HB.out) HB.out (below_size HB.out) ?_; intro w2 ho hb hg_; clear hg_; clear HB HO; have HB := Lib.hid hb; have HO := Lib.hid ho; clear ho hb))
  have ho := HO.out
  rw [show (Int.toNat 6) = 6 from rfl] at ho
  replace ho : Kd.R (Kd.int .i64) 3 w2 w.heap.size (fun _ => True) v1 [x, 0, 0, 0, 0, 0] := ho
  have hown := Kd.own_of_R ho
  rcases hown.2 with ⟨_, hx0⟩ | ⟨g, cap, cur, hv, hgb, hg, hnc, hcm, hcs, htake⟩
  · simp at hx0
  subst hv
  have HGb := Lib.hid hgb
  have HX := Lib.hid hcm
  have hcap0 : 6 ≤ cap := hnc
  have HC := Lib.hid (show ∃ cur : List Value, Hid (w2.heap[g]? = some (.cells cur.toArray 3 (0, 0))) ∧ Hid (cur.take 6 = repL x 1 ∧ cur.length = cap) from ⟨cur.toList, Lib.hid (by simpa using hg), Lib.hid ⟨by first | exact htake | (rw [htake]; rfl), by first | omega | (simp; omega)⟩⟩)
  clear ho HO hown hgb hg hnc hcm hcs htake
  go_loopw [8] (fun v wr => ∃ k : Nat, (k = 1 ∨ k = 2 ∨ k = 4 ∨ k = 6) ∧ v = .int .i64 k ∧ Hid (∃ cur : List Value, Hid (wr.heap[g]? = some (.cells cur.toArray 3 (0, 0))) ∧ Hid (cur.take 6 = repL x k ∧ cur.length = cap)) ∧ Hid (Below w.heap.size w wr)) (fun v _ => 6 - (intOf v).toNat)
  case atStart => exact ⟨1, by decide, rfl, HC, HB⟩
  case round =>
    clear HC HB
    obtain ⟨k, hk, rfl, HC, HB⟩ := hrel
    obtain ⟨w3, rfl⟩ : ∃ x : World, x = wr := ⟨_, rfl⟩
    rcases hk with rfl | rfl | rfl | rfl
    · obtain ⟨cur, HG, HL⟩ := HC.out
      have hcap1 := eq_true (show (1 : Int) ≤ (cap : Int) from by omega)
      have hcap2 := eq_false (show ¬ cap = 1 from by omega)
      go_wp2
      refine start_ (n := 10) (S := fun w' => True) (ds := []) #[false, false, false, false, false, false, false, false, false, false] (by kernel_rfl) rfl rfl (trivial) (fun hHeld => ?_)
      have HD := Lib.hid (below_drew1 HB.out)
      refine pure_ (i := 0) (N := some 38) (v := ?_) (a' := ?_) #[true, false, false, false, false, false, false, false, false, false] rfl rfl (by kernel_rfl) (fun _ _ _ h => h) (Or.inl ⟨by rfl, ?_⟩) ?_ ?_
      rotate_left
      · intro w'
        go_simp
        with_reducible rfl
      rotate_left
      · simp only [Act.put, List.setIfInBounds_toArray, List.set_cons_zero, List.set_cons_succ, i64_w, i32_w]
        rfl
      refine pure_ (i := 1) (N := some 39) (v := ?_) (a' := ?_) #[true, true, false, false, false, false, false, false, false, false] rfl rfl (by kernel_rfl) (fun _ _ _ h => h) (Or.inl ⟨by rfl, ?_⟩) ?_ ?_
      rotate_left
      · intro w'
        go_simp
        with_reducible rfl
      rotate_left
      · simp only [Act.put, List.setIfInBounds_toArray, List.set_cons_zero, List.set_cons_succ, i64_w, i32_w]
        rfl
      refine pure_ (i := 2) (N := some 40) (v := ?_) (a' := ?_) #[true, true, true, false, false, false, false, false, false, false] rfl rfl (by kernel_rfl) (fun _ _ _ h => h) (Or.inl ⟨by rfl, ?_⟩) ?_ ?_
      rotate_left
      · intro w'
        go_simp
        with_reducible rfl
      rotate_left
      · simp only [Act.put, List.setIfInBounds_toArray, List.set_cons_zero, List.set_cons_succ, i64_w, i32_w]
        rfl
      refine pure_ (i := 3) (N := some 41) (v := ?_) (a' := ?_) #[true, true, true, true, false, false, false, false, false, false] rfl rfl (by kernel_rfl) (fun _ _ _ h => h) (Or.inl ⟨by rfl, ?_⟩) ?_ ?_
      rotate_left
      · intro w'
        go_simp
        with_reducible rfl
      rotate_left
      · simp only [Act.put, List.setIfInBounds_toArray, List.set_cons_zero, List.set_cons_succ, i64_w, i32_w]
        rfl
      refine pure_ (i := 4) (N := some 42) (v := ?_) (a' := ?_) #[true, true, true, true, true, false, false, false, false, false] rfl rfl (by kernel_rfl) (fun _ _ _ h => h) (Or.inl ⟨by rfl, ?_⟩) ?_ ?_
      rotate_left
      · intro w'
        go_simp
        with_reducible rfl
      rotate_left
      · simp only [Act.put, List.setIfInBounds_toArray, List.set_cons_zero, List.set_cons_succ, i64_w, i32_w]
        rfl
      refine pure_ (i := 5) (N := some 43) (v := ?_) (a' := ?_) #[true, true, true, true, true, true, false, false, false, false] rfl rfl (by kernel_rfl) (fun _ _ _ h => h) (Or.inl ⟨by rfl, ?_⟩) ?_ ?_
      rotate_left
      · intro w'
        go_simp
        with_reducible rfl
      rotate_left
      · simp only [Act.put, List.setIfInBounds_toArray, List.set_cons_zero, List.set_cons_succ, i64_w, i32_w]
        rfl
      refine pure_ (i := 6) (N := some 44) (v := ?_) (a' := ?_) #[true, true, true, true, true, true, true, false, false, false] rfl rfl (by kernel_rfl) (fun _ _ _ h => h) (Or.inl ⟨by rfl, ?_⟩) ?_ ?_
      rotate_left
      · intro w'
        go_simp
        with_reducible rfl
      rotate_left
      · simp only [Act.put, List.setIfInBounds_toArray, List.set_cons_zero, List.set_cons_succ, i64_w, i32_w]
        rfl
      refine one_ (i := 7) (N := some 45) #[true, true, true, true, true, true, true, true, false, false] rfl rfl (by kernel_rfl) (by decide) (fun K hK => ?_)
      refine step_copy_splice rfl (.tmp 41) (.tmp 44) 27 27 rfl 3 Try.underlying27 (by kernel_rfl) (some ⟨g, 1, none⟩) (some ⟨g, 0, none⟩) _ _ _ _ rfl rfl g 1 cur 3 HG.out (List.replicate 1 (.int .i64 x)) (by rw [List.length_replicate]; rfl) (fun _ => ⟨rfl, _, rfl, rep_src HG.out HL.out 1 (by decide)⟩) (by simp only [List.length_replicate]; have := rep_len HL.out; omega) (rep_one x 1) w.heap.size w HD.out HGb.out ?_
      intro w4 hg4 hb4
      refine hK.out _ _ (trivial) (fun hHeld => ?_)
      clear hK K
      refine norm_ (a' := ?_) ?_ ?_
      rotate_left
      · show Act.put _ (some 45) _ = _
        simp only [Act.put, List.setIfInBounds_toArray, List.set_cons_zero, List.set_cons_succ, i64_w, i32_w]
        rfl
      refine pure_ (i := 8) (N := some 46) (v := ?_) (a' := ?_) #[true, true, true, true, true, true, true, true, true, false] rfl rfl (by kernel_rfl) (fun _ _ _ h => h) (Or.inl ⟨by rfl, ?_⟩) ?_ ?_
      rotate_left
      · intro w'
        go_simp
        with_reducible rfl
      rotate_left
      · simp only [Act.put, List.setIfInBounds_toArray, List.set_cons_zero, List.set_cons_succ, i64_w, i32_w]
        rfl
      refine pure_ (i := 9) (N := some 8) (v := ?_) (a' := ?_) #[true, true, true, true, true, true, true, true, true, true] rfl rfl (by kernel_rfl) (fun _ _ _ h => h) (Or.inl ⟨by rfl, ?_⟩) ?_ ?_
      rotate_left
      · intro w'
        go_simp
        with_reducible rfl
      rotate_left
      · simp only [Act.put, List.setIfInBounds_toArray, List.set_cons_zero, List.set_cons_succ, i64_w, i32_w]
        rfl
      refine done_ (by kernel_rfl) ?_
      have HB4 := Lib.hid hb4
      have HC4 := Lib.hid (show ∃ cur : List Value, Hid (w4.heap[g]? = some (.cells cur.toArray 3 (0, 0))) ∧ Hid (cur.take 6 = repL x 2 ∧ cur.length = cap) from ⟨_, hg4, Lib.hid ⟨rep_next1 HL.out.1, by rw [length_splice _ _ _ (by simp only [List.length_replicate]; have := rep_len HL.out; omega)]; exact HL.out.2⟩⟩)
      clear hb4 hg4
      go_wp2
      go_roundw
      case rel => exact ⟨2, by decide, by first | rfl | go_num | (simp [wrap64]; done), HC4, HB4⟩
      case measure => simp [intOf, wrap64]
    · obtain ⟨cur, HG, HL⟩ := HC.out
      have hcap1 := eq_true (show (2 : Int) ≤ (cap : Int) from by omega)
      have hcap2 := eq_false (show ¬ cap = 2 from by omega)
      go_wp2
      refine start_ (n := 10) (S := fun w' => True) (ds := []) #[false, false, false, false, false, false, false, false, false, false] (by kernel_rfl) rfl rfl (trivial) (fun hHeld => ?_)
      have HD := Lib.hid (below_drew1 HB.out)
      refine pure_ (i := 0) (N := some 38) (v := ?_) (a' := ?_) #[true, false, false, false, false, false, false, false, false, false] rfl rfl (by kernel_rfl) (fun _ _ _ h => h) (Or.inl ⟨by rfl, ?_⟩) ?_ ?_
      rotate_left
      · intro w'
        go_simp
        with_reducible rfl
      rotate_left
      · simp only [Act.put, List.setIfInBounds_toArray, List.set_cons_zero, List.set_cons_succ, i64_w, i32_w]
        rfl
      refine pure_ (i := 1) (N := some 39) (v := ?_) (a' := ?_) #[true, true, false, false, false, false, false, false, false, false] rfl rfl (by kernel_rfl) (fun _ _ _ h => h) (Or.inl ⟨by rfl, ?_⟩) ?_ ?_
      rotate_left
      · intro w'
        go_simp
        with_reducible rfl
      rotate_left
      · simp only [Act.put, List.setIfInBounds_toArray, List.set_cons_zero, List.set_cons_succ, i64_w, i32_w]
        rfl
      refine pure_ (i := 2) (N := some 40) (v := ?_) (a' := ?_) #[true, true, true, false, false, false, false, false, false, false] rfl rfl (by kernel_rfl) (fun _ _ _ h => h) (Or.inl ⟨by rfl, ?_⟩) ?_ ?_
      rotate_left
      · intro w'
        go_simp
        with_reducible rfl
      rotate_left
      · simp only [Act.put, List.setIfInBounds_toArray, List.set_cons_zero, List.set_cons_succ, i64_w, i32_w]
        rfl
      refine pure_ (i := 3) (N := some 41) (v := ?_) (a' := ?_) #[true, true, true, true, false, false, false, false, false, false] rfl rfl (by kernel_rfl) (fun _ _ _ h => h) (Or.inl ⟨by rfl, ?_⟩) ?_ ?_
      rotate_left
      · intro w'
        go_simp
        with_reducible rfl
      rotate_left
      · simp only [Act.put, List.setIfInBounds_toArray, List.set_cons_zero, List.set_cons_succ, i64_w, i32_w]
        rfl
      refine pure_ (i := 4) (N := some 42) (v := ?_) (a' := ?_) #[true, true, true, true, true, false, false, false, false, false] rfl rfl (by kernel_rfl) (fun _ _ _ h => h) (Or.inl ⟨by rfl, ?_⟩) ?_ ?_
      rotate_left
      · intro w'
        go_simp
        with_reducible rfl
      rotate_left
      · simp only [Act.put, List.setIfInBounds_toArray, List.set_cons_zero, List.set_cons_succ, i64_w, i32_w]
        rfl
      refine pure_ (i := 5) (N := some 43) (v := ?_) (a' := ?_) #[true, true, true, true, true, true, false, false, false, false] rfl rfl (by kernel_rfl) (fun _ _ _ h => h) (Or.inl ⟨by rfl, ?_⟩) ?_ ?_
      rotate_left
      · intro w'
        go_simp
        with_reducible rfl
      rotate_left
      · simp only [Act.put, List.setIfInBounds_toArray, List.set_cons_zero, List.set_cons_succ, i64_w, i32_w]
        rfl
      refine pure_ (i := 6) (N := some 44) (v := ?_) (a' := ?_) #[true, true, true, true, true, true, true, false, false, false] rfl rfl (by kernel_rfl) (fun _ _ _ h => h) (Or.inl ⟨by rfl, ?_⟩) ?_ ?_
      rotate_left
      · intro w'
        go_simp
        with_reducible rfl
      rotate_left
      · simp only [Act.put, List.setIfInBounds_toArray, List.set_cons_zero, List.set_cons_succ, i64_w, i32_w]
        rfl
      refine one_ (i := 7) (N := some 45) #[true, true, true, true, true, true, true, true, false, false] rfl rfl (by kernel_rfl) (by decide) (fun K hK => ?_)
      refine step_copy_splice rfl (.tmp 41) (.tmp 44) 27 27 rfl 3 Try.underlying27 (by kernel_rfl) (some ⟨g, 2, none⟩) (some ⟨g, 0, none⟩) _ _ _ _ rfl rfl g 2 cur 3 HG.out (List.replicate 2 (.int .i64 x)) (by rw [List.length_replicate]; rfl) (fun _ => ⟨rfl, _, rfl, rep_src HG.out HL.out 2 (by decide)⟩) (by simp only [List.length_replicate]; have := rep_len HL.out; omega) (rep_one x 2) w.heap.size w HD.out HGb.out ?_
      intro w4 hg4 hb4
      refine hK.out _ _ (trivial) (fun hHeld => ?_)
      clear hK K
      refine norm_ (a' := ?_) ?_ ?_
      rotate_left
      · show Act.put _ (some 45) _ = _
        simp only [Act.put, List.setIfInBounds_toArray, List.set_cons_zero, List.set_cons_succ, i64_w, i32_w]
        rfl
      refine pure_ (i := 8) (N := some 46) (v := ?_) (a' := ?_) #[true, true, true, true, true, true, true, true, true, false] rfl rfl (by kernel_rfl) (fun _ _ _ h => h) (Or.inl ⟨by rfl, ?_⟩) ?_ ?_
      rotate_left
      · intro w'
        go_simp
        with_reducible rfl
      rotate_left
      · simp only [Act.put, List.setIfInBounds_toArray, List.set_cons_zero, List.set_cons_succ, i64_w, i32_w]
        rfl
      refine pure_ (i := 9) (N := some 8) (v := ?_) (a' := ?_) #[true, true, true, true, true, true, true, true, true, true] rfl rfl (by kernel_rfl) (fun _ _ _ h => h) (Or.inl ⟨by rfl, ?_⟩) ?_ ?_
      rotate_left
      · intro w'
        go_simp
        with_reducible rfl
      rotate_left
      · simp only [Act.put, List.setIfInBounds_toArray, List.set_cons_zero, List.set_cons_succ, i64_w, i32_w]
        rfl
      refine done_ (by kernel_rfl) ?_
      have HB4 := Lib.hid hb4
      have HC4 := Lib.hid (show ∃ cur : List Value, Hid (w4.heap[g]? = some (.cells cur.toArray 3 (0, 0))) ∧ Hid (cur.take 6 = repL x 4 ∧ cur.length = cap) from ⟨_, hg4, Lib.hid ⟨rep_next2 HL.out.1, by rw [length_splice _ _ _ (by simp only [List.length_replicate]; have := rep_len HL.out; omega)]; exact HL.out.2⟩⟩)
      clear hb4 hg4
      go_wp2
      go_roundw
      case rel => exact ⟨4, by decide, by first | rfl | go_num | (simp [wrap64]; done), HC4, HB4⟩
      case measure => simp [intOf, wrap64]
    · obtain ⟨cur, HG, HL⟩ := HC.out
      have hcap1 := eq_true (show (4 : Int) ≤ (cap : Int) from by omega)
      have hcap2 := eq_false (show ¬ cap = 4 from by omega)
      go_wp2
      refine start_ (n := 10) (S := fun w' => True) (ds := []) #[false, false, false, false, false, false, false, false, false, false] (by kernel_rfl) rfl rfl (trivial) (fun hHeld => ?_)
      have HD := Lib.hid (below_drew1 HB.out)
      refine pure_ (i := 0) (N := some 38) (v := ?_) (a' := ?_) #[true, false, false, false, false, false, false, false, false, false] rfl rfl (by kernel_rfl) (fun _ _ _ h => h) (Or.inl ⟨by rfl, ?_⟩) ?_ ?_
      rotate_left
      · intro w'
        go_simp
        with_reducible rfl
      rotate_left
      · simp only [Act.put, List.setIfInBounds_toArray, List.set_cons_zero, List.set_cons_succ, i64_w, i32_w]
        rfl
      refine pure_ (i := 1) (N := some 39) (v := ?_) (a' := ?_) #[true, true, false, false, false, false, false, false, false, false] rfl rfl (by kernel_rfl) (fun _ _ _ h => h) (Or.inl ⟨by rfl, ?_⟩) ?_ ?_
      rotate_left
      · intro w'
        go_simp
        with_reducible rfl
      rotate_left
      · simp only [Act.put, List.setIfInBounds_toArray, List.set_cons_zero, List.set_cons_succ, i64_w, i32_w]
        rfl
      refine pure_ (i := 2) (N := some 40) (v := ?_) (a' := ?_) #[true, true, true, false, false, false, false, false, false, false] rfl rfl (by kernel_rfl) (fun _ _ _ h => h) (Or.inl ⟨by rfl, ?_⟩) ?_ ?_
      rotate_left
      · intro w'
        go_simp
        with_reducible rfl
      rotate_left
      · simp only [Act.put, List.setIfInBounds_toArray, List.set_cons_zero, List.set_cons_succ, i64_w, i32_w]
        rfl
      refine pure_ (i := 3) (N := some 41) (v := ?_) (a' := ?_) #[true, true, true, true, false, false, false, false, false, false] rfl rfl (by kernel_rfl) (fun _ _ _ h => h) (Or.inl ⟨by rfl, ?_⟩) ?_ ?_
      rotate_left
      · intro w'
        go_simp
        with_reducible rfl
      rotate_left
      · simp only [Act.put, List.setIfInBounds_toArray, List.set_cons_zero, List.set_cons_succ, i64_w, i32_w]
        rfl
      refine pure_ (i := 4) (N := some 42) (v := ?_) (a' := ?_) #[true, true, true, true, true, false, false, false, false, false] rfl rfl (by kernel_rfl) (fun _ _ _ h => h) (Or.inl ⟨by rfl, ?_⟩) ?_ ?_
      rotate_left
      · intro w'
        go_simp
        with_reducible rfl
      rotate_left
      · simp only [Act.put, List.setIfInBounds_toArray, List.set_cons_zero, List.set_cons_succ, i64_w, i32_w]
        rfl
      refine pure_ (i := 5) (N := some 43) (v := ?_) (a' := ?_) #[true, true, true, true, true, true, false, false, false, false] rfl rfl (by kernel_rfl) (fun _ _ _ h => h) (Or.inl ⟨by rfl, ?_⟩) ?_ ?_
      rotate_left
      · intro w'
        go_simp
        with_reducible rfl
      rotate_left
      · simp only [Act.put, List.setIfInBounds_toArray, List.set_cons_zero, List.set_cons_succ, i64_w, i32_w]
        rfl
      refine pure_ (i := 6) (N := some 44) (v := ?_) (a' := ?_) #[true, true, true, true, true, true, true, false, false, false] rfl rfl (by kernel_rfl) (fun _ _ _ h => h) (Or.inl ⟨by rfl, ?_⟩) ?_ ?_
      rotate_left
      · intro w'
        go_simp
        with_reducible rfl
      rotate_left
      · simp only [Act.put, List.setIfInBounds_toArray, List.set_cons_zero, List.set_cons_succ, i64_w, i32_w]
        rfl
      refine one_ (i := 7) (N := some 45) #[true, true, true, true, true, true, true, true, false, false] rfl rfl (by kernel_rfl) (by decide) (fun K hK => ?_)
      refine step_copy_splice rfl (.tmp 41) (.tmp 44) 27 27 rfl 3 Try.underlying27 (by kernel_rfl) (some ⟨g, 4, none⟩) (some ⟨g, 0, none⟩) _ _ _ _ rfl rfl g 4 cur 3 HG.out (List.replicate 2 (.int .i64 x)) (by rw [List.length_replicate]; rfl) (fun _ => ⟨rfl, _, rfl, rep_src HG.out HL.out 2 (by decide)⟩) (by simp only [List.length_replicate]; have := rep_len HL.out; omega) (rep_one x 2) w.heap.size w HD.out HGb.out ?_
      intro w4 hg4 hb4
      refine hK.out _ _ (trivial) (fun hHeld => ?_)
      clear hK K
      refine norm_ (a' := ?_) ?_ ?_
      rotate_left
      · show Act.put _ (some 45) _ = _
        simp only [Act.put, List.setIfInBounds_toArray, List.set_cons_zero, List.set_cons_succ, i64_w, i32_w]
        rfl
      refine pure_ (i := 8) (N := some 46) (v := ?_) (a' := ?_) #[true, true, true, true, true, true, true, true, true, false] rfl rfl (by kernel_rfl) (fun _ _ _ h => h) (Or.inl ⟨by rfl, ?_⟩) ?_ ?_
      rotate_left
      · intro w'
        go_simp
        with_reducible rfl
      rotate_left
      · simp only [Act.put, List.setIfInBounds_toArray, List.set_cons_zero, List.set_cons_succ, i64_w, i32_w]
        rfl
      refine pure_ (i := 9) (N := some 8) (v := ?_) (a' := ?_) #[true, true, true, true, true, true, true, true, true, true] rfl rfl (by kernel_rfl) (fun _ _ _ h => h) (Or.inl ⟨by rfl, ?_⟩) ?_ ?_
      rotate_left
      · intro w'
        go_simp
        with_reducible rfl
      rotate_left
      · simp only [Act.put, List.setIfInBounds_toArray, List.set_cons_zero, List.set_cons_succ, i64_w, i32_w]
        rfl
      refine done_ (by kernel_rfl) ?_
      have HB4 := Lib.hid hb4
      have HC4 := Lib.hid (show ∃ cur : List Value, Hid (w4.heap[g]? = some (.cells cur.toArray 3 (0, 0))) ∧ Hid (cur.take 6 = repL x 6 ∧ cur.length = cap) from ⟨_, hg4, Lib.hid ⟨rep_next4 HL.out.1, by rw [length_splice _ _ _ (by simp only [List.length_replicate]; have := rep_len HL.out; omega)]; exact HL.out.2⟩⟩)
      clear hb4 hg4
      go_wp2
      go_roundw
      case rel => exact ⟨6, by decide, by first | rfl | go_num | (simp [wrap64]; done), HC4, HB4⟩
      case measure => simp [intOf, wrap64]
    · obtain ⟨cur, HG, HL⟩ := HC.out
      go_wp2
      go_ret
      exact ⟨_, rfl, repeat_end HG.out HL.out hcap0 HX.out HGb.out, HB.out⟩
end Go.Proofs.Ytpkhgapifnjbeaa.G
end
section
namespace Go.Proofs.Ytpkhgapifnjbeaa.G
set_option linter.unusedVariables false
set_option linter.unusedSimpArgs false
open Go.RowKit Go.Proofs.YtpkhgapifnjbeaaW.PrintWords Go.Proofs.YtpkhgapifnjbeaaW.PrintLast Go.Proofs.YtpkhgapifnjbeaaW.PrintMore Go.Proofs.Ytpkhgapifnjbeaa.Rs
def g_fill.f (l ps : List Int) : Option (List Int) := Go.Proofs.Ytpkhgapifnjbeaa.F.rscode_fill.f 400 l ps
theorem g_fill.callsN (A0 : Option Addr) (c0 : Nat) (l0 : List Int) (A1 : Option Addr) (c1 : Nat) (l1 : List Int) (r : List Int) (w : World) (hr0 : Kd.C (Kd.int .i64) w A0 l0.length l0) (hc0 : l0.length ≤ c0) (hr1 : Kd.C (Kd.int .i64) w A1 l1.length l1) (hc1 : l1.length ≤ c1) (h : g_fill.f l0 l1 = some r) :
    Calls Try.prog 47 #[.slice A0 l0.length c0, .slice A1 l1.length c1] w fun e w' => ∃ v0_ : Value, e = .returned (v0_) ∧ Kd.R (Kd.int .i64) 3 w' w.heap.size (fun _ => True) v0_ r ∧ Below w.heap.size w w' ∧ (l0 ≠ [] → r = [] → v0_ = .slice none 0 0) :=
  Go.Proofs.Ytpkhgapifnjbeaa.F.rscode_fill.calls 400 A0 c0 l0 A1 c1 l1 r w hr0 hc0 hr1 hc1 h
theorem g_fill.calls (A0 : Option Addr) (c0 : Nat) (l0 : List Int) (A1 : Option Addr) (c1 : Nat) (l1 : List Int) (r : List Int) (w : World) (hr0 : Kd.C (Kd.int .i64) w A0 l0.length l0) (hc0 : l0.length ≤ c0) (hr1 : Kd.C (Kd.int .i64) w A1 l1.length l1) (hc1 : l1.length ≤ c1) (h : g_fill.f l0 l1 = some r) :
    Calls Try.prog 47 #[.slice A0 l0.length c0, .slice A1 l1.length c1] w fun e w' => ∃ v0_ : Value, e = .returned (v0_) ∧ Kd.R (Kd.int .i64) 3 w' w.heap.size (fun _ => True) v0_ r ∧ Below w.heap.size w w' :=
  (g_fill.callsN A0 c0 l0 A1 c1 l1 r w hr0 hc0 hr1 hc1 h).mono fun e w' ⟨v, h1, h2, h3, _⟩ => ⟨v, h1, h2, h3⟩
def g_loc.f (l ps : List Int) (n : Int) : Option (List Int × Bool) := Go.Proofs.Ytpkhgapifnjbeaa.L.rscode_locate.f 2000 l ps n
theorem g_loc.calls (A0 : Option Addr) (c0 : Nat) (l0 : List Int) (A1 : Option Addr) (c1 : Nat) (l1 : List Int) (a2 : Int) (r1 : List Int) (r2 : Bool) (w : World) (hr0 : Kd.C (Kd.int .i64) w A0 l0.length l0) (hc0 : l0.length ≤ c0) (hr1 : Kd.C (Kd.int .i64) w A1 l1.length l1) (hc1 : l1.length ≤ c1) (h : g_loc.f l0 l1 a2 = some (r1, r2)) :
    Calls Try.prog 53 #[.slice A0 l0.length c0, .slice A1 l1.length c1, .int .i64 a2] w fun e w' => ∃ v0_ : Value, e = .returned (.tuple #[v0_, .bool r2]) ∧ Kd.R (Kd.int .i64) 3 w' w.heap.size (fun _ => True) v0_ r1 ∧ Below w.heap.size w w' :=
  Go.Proofs.Ytpkhgapifnjbeaa.L.rscode_locate.calls 2000 A0 c0 l0 A1 c1 l1 a2 r1 r2 w hr0 hc0 hr1 hc1 h
def r_Fill.f (l ps : List Int) : Option (List Int × Bool) := Go.Proofs.Ytpkhgapifnjbeaa.R.awardingbodyref18_Fill.f 400 l ps
theorem r_Fill.calls (A0 : Option Addr) (c0 : Nat) (l0 : List Int) (A1 : Option Addr) (c1 : Nat) (l1 : List Int) (r1 : List Int) (r2 : Bool) (w : World) (hr0 : Kd.C (Kd.int .i64) w A0 l0.length l0) (hc0 : l0.length ≤ c0) (hr1 : Kd.C (Kd.int .i64) w A1 l1.length l1) (hc1 : l1.length ≤ c1) (h : r_Fill.f l0 l1 = some (r1, r2)) :
    Calls Try.prog 48 #[.slice A0 l0.length c0, .slice A1 l1.length c1] w fun e w' => ∃ v0_ : Value, e = .returned (.tuple #[v0_, .bool r2]) ∧ Kd.R (Kd.int .i64) 3 w' w.heap.size (fun _ => True) v0_ r1 ∧ Below w.heap.size w w' :=
  Go.Proofs.Ytpkhgapifnjbeaa.R.awardingbodyref18_Fill.calls 400 A0 c0 l0 A1 c1 l1 r1 r2 w hr0 hc0 hr1 hc1 h
theorem concat_call (A0 : Option Addr) (c0 : Nat) (l0 : List Int) (A1 : Option Addr) (c1 : Nat) (l1 : List Int) (w : World)
    (hr0 : Kd.C (Kd.int .i64) w A0 l0.length l0) (hc0 : l0.length ≤ c0) (hr1 : Kd.C (Kd.int .i64) w A1 l1.length l1) (hc1 : l1.length ≤ c1) (hl : l0.length + l1.length ≤ 500) :
    Calls Try.prog 43 #[.slice (some ⟨w.heap.size, 0, none⟩) 2 2] (w.alloc (.cells #[.slice A0 l0.length c0, .slice A1 l1.length c1] 27)) fun e w' => ∃ v : Value, e = .returned v ∧ Kd.R (Kd.int .i64) 3 w' w.heap.size (fun _ => True) v (l0 ++ l1) ∧ Below w.heap.size w w' := by
  have hb := below_alloc (Below.refl w.heap.size w) (.cells #[.slice A0 l0.length c0, .slice A1 l1.length c1] 27)
  have hg := heap_alloc_new w (.cells #[.slice A0 l0.length c0, .slice A1 l1.length c1] 27)
  refine (concat_walk w.heap.size 2 A0 c0 l0 A1 c1 l1 _ ?_ ?_ (Kd.C_below hr0 hb) hc0 (Kd.C_below hr1 hb) hc1 (by omega) (by omega)).mono ?_
  · rw [cell_of_row _ _ 0 _ _ (0, 0) hg]; rfl
  · rw [cell_of_row _ _ 1 _ _ (0, 0) hg]; rfl
  · rintro e w' ⟨v, he, hR, hB⟩
    exact ⟨v, he, Kd.R_lower hR (below_size hb), below_step hb hB⟩
def g_pad.f (l : List Int) : Option (List Int) := if l.length ≤ 400 then some (l ++ List.replicate 6 (-1)) else none
theorem g_pad.some {l t : List Int} (h : g_pad.f l = some t) : t = l ++ List.replicate 6 (-1) ∧ l.length ≤ 400 := by
  unfold g_pad.f at h
  by_cases hl : l.length ≤ 400
  · rw [if_pos hl] at h; exact ⟨(Option.some.inj h).symm, hl⟩
  · rw [if_neg hl] at h; cases h
def g_cat.f (a b : List Int) : Option (List Int) := if a.length + b.length ≤ 400 then some (a ++ b) else none
theorem g_cat.some {a b t : List Int} (h : g_cat.f a b = some t) : t = a ++ b ∧ a.length + b.length ≤ 400 := by
  unfold g_cat.f at h
  by_cases hl : a.length + b.length ≤ 400
  · rw [if_pos hl] at h; exact ⟨(Option.some.inj h).symm, hl⟩
  · rw [if_neg hl] at h; cases h
theorem is_some_of {e base n c : Nat} {ok : Nat → Prop} {w : World} {A : Option Addr} {xs : List Int} (h : Kd.R (Kd.int .i64) e w base ok (.slice A n c) xs) (hn : 0 < xs.length) : ∃ g, A = some g := by
  obtain ⟨g, cap, he, _⟩ := Kd.R_form h hn
  injection he with h1 _ _
  exact ⟨_, h1⟩
theorem word_ne {l : List Int} {a : Int} (h : g_word.f l a = some true) : l ≠ [] := by
  rintro rfl
  unfold g_word.f at h
  simp at h
end Go.Proofs.Ytpkhgapifnjbeaa.G
end
section
namespace Go.Proofs.Ytpkhgapifnjbeaa.G
set_option linter.unusedVariables false
set_option linter.unusedSimpArgs false
open Go.RowKit Go.Proofs.Ytpkhgapifnjbeaa.Rs
theorem vand (n : Nat) : ∀ (x y : Nat → GF) (s : Nat), (∀ i, i < n → x i ≠ 0) → (∀ i j, i < n → j < n → x i = x j → i = j) → (∀ j, j < n → gsum n (fun i => y i * GF.pw (x i) (s + j)) = 0) → ∀ i, i < n → y i = 0 := by
  induction n with
  | zero => intro x y s _ _ _ i hi; omega
  | succ n ih =>
    intro x y s h0 hd he
    have key : ∀ i, i < n → y i * (x i + x n) = 0 := by
      refine ih x (fun i => y i * (x i + x n)) s (fun i hi => h0 i (by omega)) (fun i j hi hj => hd i j (by omega) (by omega)) fun j hj => ?_
      have e1 := he (j + 1) (by omega)
      have e0 := he j (by omega)
      simp only [gsum] at e1 e0
      have hF : gsum n (fun i => y i * (x i + x n) * GF.pw (x i) (s + j)) = gsum n (fun i => y i * GF.pw (x i) (s + (j + 1))) + x n * gsum n (fun i => y i * GF.pw (x i) (s + j)) := by
        rw [← gsum_mul, ← gsum_add]
        refine gsum_congr fun i hi => ?_
        rw [show s + (j + 1) = (s + j) + 1 from rfl]
        show y i * (x i + x n) * GF.pw (x i) (s + j) = y i * (GF.pw (x i) (s + j) * x i) + x n * (y i * GF.pw (x i) (s + j))
        rw [GF.mul_add, GF.add_mul]
        congr 1 <;> ac_rfl
      have hn : y n * GF.pw (x n) (s + (j + 1)) = x n * (y n * GF.pw (x n) (s + j)) := by
        show y n * (GF.pw (x n) (s + j) * x n) = _
        ac_rfl
      have e1' := GF.eq_of_add e1
      have e0' := GF.eq_of_add e0
      show gsum n (fun i => y i * (x i + x n) * GF.pw (x i) (s + j)) = 0
      rw [hF, e1', e0', hn, GF.add_self]
    have hz : ∀ i, i < n → y i = 0 := fun i hi => (GF.mul_eq_zero _ _ (key i hi)).elim id fun h => absurd (hd i n (by omega) (by omega) (GF.eq_of_add h)) (by omega)
    intro i hi
    rcases Nat.lt_or_ge i n with h | h
    · exact hz i h
    · obtain rfl : i = n := by omega
      have e0 := he 0 (by omega)
      simp only [gsum] at e0
      rw [gsum_congr (g := fun _ => 0) (fun k hk => by rw [hz k hk, GF.zero_mul]), gsum_zero, GF.zero_add] at e0
      exact (GF.mul_eq_zero _ _ e0).elim id fun h => absurd h (GF.pw_ne_zero (h0 i hi) _)
def ElM (R C : Nat) (M : Nat → Nat → Int) : Prop := ∀ i k, i < R → k < C → isEl (M i k) = true
def KerM (R C : Nat) (M : Nat → Nat → Int) (x : Nat → GF) : Prop := ∀ i, i < R → gsum C (fun k => toG (M i k) * x k) = 0
def dl (i k : Nat) : Int := if i = k then 1 else 0
def IdM (R c : Nat) (M : Nat → Nat → Int) : Prop := ∀ i k, i < R → k < c → M i k = dl i k
theorem toG_mulI {a b : Int} (ha : isEl a = true) (hb : isEl b = true) : toG (mulI a b) = toG a * toG b := by rw [mulI_el ha hb, toG_ofG]
theorem toG_xorI {a b : Int} (ha : isEl a = true) (hb : isEl b = true) : toG (xorI a b) = toG a + toG b := by rw [xorI_el ha hb, toG_ofG]
theorem toG_invI {a : Int} (ha : isEl a = true) : toG (invI a) = GF.inv (toG a) := by
  unfold invI; rw [if_pos ha, toG_ofG]
theorem toG_eq_zero {a : Int} (ha : isEl a = true) : toG a = 0 ↔ a = 0 := by
  refine ⟨fun h => ?_, fun h => by rw [h]; rfl⟩
  rw [← ofG_toG ((isEl_iff a).1 ha).1 ((isEl_iff a).1 ha).2, h]; rfl
theorem pivot_spec (M : Nat → Nat → Int) (c R : Nat) : (pivot M c R = R ∧ ∀ i, c ≤ i → i < R → M i c = 0) ∨ (c ≤ pivot M c R ∧ pivot M c R < R ∧ M (pivot M c R) c ≠ 0) := by
  unfold pivot
  cases h : (List.range R).find? (fun i => decide (c ≤ i) && decide (M i c ≠ 0)) with
  | none =>
    refine .inl ⟨rfl, fun i h1 h2 => ?_⟩
    rw [List.find?_range_eq_none] at h
    have := h i h2
    simpa [h1] using this
  | some p =>
    rw [List.find?_range_eq_some] at h
    refine .inr ?_
    simp only [Bool.and_eq_true, decide_eq_true_eq, List.mem_range] at h
    exact ⟨h.1.1, h.2.1, h.1.2⟩
theorem swap_row {R : Nat} (M : Nat → Nat → Int) (a b : Nat) (ha : a < R) (hb : b < R) (i : Nat) (hi : i < R) : ∃ j, j < R ∧ swapF M a b i = M j := by
  unfold swapF
  by_cases h1 : i = a
  · exact ⟨b, hb, by rw [if_pos h1]⟩
  · rw [if_neg h1]
    by_cases h2 : i = b
    · exact ⟨a, ha, by rw [if_pos h2]⟩
    · exact ⟨i, hi, by rw [if_neg h2]⟩
theorem swap_col {R : Nat} (M : Nat → Nat → Int) (a b : Nat) (ha : a < R) (hb : b < R) (j : Nat) (hj : j < R) : ∃ i, i < R ∧ swapF M a b i = M j := by
  by_cases h1 : j = a
  · exact ⟨b, hb, by unfold swapF; by_cases h : b = a <;> simp [h1, h]⟩
  · by_cases h2 : j = b
    · exact ⟨a, ha, by simp [swapF, h2]⟩
    · exact ⟨j, hj, by simp [swapF, h1, h2]⟩
section
variable {R C : Nat} {M : Nat → Nat → Int}
theorem ElM.swap (h : ElM R C M) {a b : Nat} (ha : a < R) (hb : b < R) : ElM R C (swapF M a b) := fun i k hi hk => by
  obtain ⟨j, hj, e⟩ := swap_row M a b ha hb i hi
  rw [e]; exact h j k hj hk
theorem ker_swap {a b : Nat} (ha : a < R) (hb : b < R) (x : Nat → GF) : KerM R C (swapF M a b) x ↔ KerM R C M x := by
  refine ⟨fun h j hj => ?_, fun h i hi => ?_⟩
  · obtain ⟨i, hi, e⟩ := swap_col M a b ha hb j hj
    have := h i hi
    rwa [e] at this
  · obtain ⟨j, hj, e⟩ := swap_row M a b ha hb i hi
    rw [e]; exact h j hj
theorem ElM.scale (h : ElM R C M) {c : Nat} {b : Int} : ElM R C (scaleI M c b) := fun i k hi hk => by
  unfold scaleI; split
  · exact isEl_mulI _ _
  · exact h i k hi hk
theorem ker_scale (h : ElM R C M) {c : Nat} {b : Int} (hb : isEl b = true) (hb0 : toG b ≠ 0) (x : Nat → GF) : KerM R C (scaleI M c b) x ↔ KerM R C M x := by
  have e : ∀ i, i < R → gsum C (fun k => toG (scaleI M c b i k) * x k) = (if i = c then toG b else 1) * gsum C (fun k => toG (M i k) * x k) := by
    intro i hi
    rw [← gsum_mul]
    refine gsum_congr fun k hk => ?_
    unfold scaleI
    by_cases hc : i = c
    · rw [if_pos hc, if_pos hc, toG_mulI (h i k hi hk) hb]; ac_rfl
    · rw [if_neg hc, if_neg hc, GF.one_mul]
  refine ⟨fun hk i hi => ?_, fun hk i hi => ?_⟩
  · have := hk i hi
    rw [e i hi] at this
    refine (GF.mul_eq_zero _ _ this).elim (fun h1 => ?_) id
    by_cases hc : i = c
    · rw [if_pos hc] at h1; exact absurd h1 hb0
    · rw [if_neg hc] at h1; exact absurd h1 GF.one_ne_zero
  · rw [e i hi, hk i hi, GF.mul_zero]
theorem elim_at (h : ElM R C M) {c : Nat} (hc : c < R) (hcC : c < C) (i k : Nat) (hi : i < R) (hk : k < C) : isEl (elimI M c i k) = true ∧ toG (elimI M c i k) = toG (M i k) + (if i = c then 0 else toG (M i c)) * toG (M c k) := by
  unfold elimI
  by_cases h1 : i ≠ c ∧ M i c ≠ 0
  · rw [if_pos h1, if_neg h1.1]
    refine ⟨isEl_xorI (h i k hi hk) (isEl_mulI _ _), ?_⟩
    rw [toG_xorI (h i k hi hk) (isEl_mulI _ _), toG_mulI (h i c hi hcC) (h c k hc hk)]
  · rw [if_neg h1]
    refine ⟨h i k hi hk, ?_⟩
    by_cases h2 : i = c
    · rw [if_pos h2, GF.zero_mul, GF.add_zero]
    · have h3 : M i c = 0 := Classical.byContradiction fun h3 => h1 ⟨h2, h3⟩
      rw [if_neg h2, h3, show toG 0 = 0 from rfl, GF.zero_mul, GF.add_zero]
theorem ker_elim (h : ElM R C M) {c : Nat} (hc : c < R) (hcC : c < C) (x : Nat → GF) : KerM R C (elimI M c) x ↔ KerM R C M x := by
  have e : ∀ i, i < R → gsum C (fun k => toG (elimI M c i k) * x k) = gsum C (fun k => toG (M i k) * x k) + (if i = c then 0 else toG (M i c)) * gsum C (fun k => toG (M c k) * x k) := by
    intro i hi
    rw [← gsum_mul, ← gsum_add]
    refine gsum_congr fun k hk => ?_
    rw [(elim_at h hc hcC i k hi hk).2, GF.add_mul]
    congr 1
    ac_rfl
  refine ⟨fun hk => ?_, fun hk i hi => by rw [e i hi, hk i hi, hk c hc, GF.mul_zero, GF.add_zero]⟩
  have hc0 : gsum C (fun k => toG (M c k) * x k) = 0 := by
    have := hk c hc
    rwa [e c hc, if_pos rfl, GF.zero_mul, GF.add_zero] at this
  intro i hi
  have := hk i hi
  rwa [e i hi, hc0, GF.mul_zero, GF.add_zero] at this
theorem step_ok (h : ElM R C M) {c p : Nat} (hcp : c ≤ p) (hp : p < R) (hcC : c < C) (hz : M p c ≠ 0) (hI : IdM R c M) :
    ElM R C (stepI M c p) ∧ (∀ x, KerM R C (stepI M c p) x ↔ KerM R C M x) ∧ IdM R (c + 1) (stepI M c p) := by
  have hcR : c < R := by omega
  have h1 := h.swap hcR hp
  obtain ⟨M1, hM1⟩ : ∃ M1, M1 = swapF M c p := ⟨_, rfl⟩
  have hcc : M1 c c = M p c := by rw [hM1]; simp [swapF]
  have hk1 := ker_swap (C := C) (M := M) hcR hp
  have hI1 : IdM R c M1 := by
    intro i k hi hk
    rw [hM1]
    unfold swapF dl
    by_cases e1 : i = c
    · rw [if_pos e1, hI p k hp hk]; unfold dl; rw [if_neg (by omega), if_neg (by omega)]
    · rw [if_neg e1]
      by_cases e2 : i = p
      · rw [if_pos e2, hI c k hcR hk]; unfold dl; rw [if_neg (by omega), if_neg (by omega)]
      · rw [if_neg e2]; exact hI i k hi hk
  rw [← hM1] at h1 hk1
  have hb0 : toG (M1 c c) ≠ 0 := fun e => hz (by rw [← hcc]; exact (toG_eq_zero (h1 c c hcR hcC)).1 e)
  have hbe : isEl (invI (M1 c c)) = true := isEl_invI _
  have hbi := toG_invI (h1 c c hcR hcC)
  have hmi : toG (M1 c c) * toG (invI (M1 c c)) = 1 := by rw [hbi]; exact GF.mul_inv _ hb0
  have hb1 : toG (invI (M1 c c)) ≠ 0 := fun e => by rw [e, GF.mul_zero] at hmi; exact GF.one_ne_zero hmi.symm
  have h2 := h1.scale (c := c) (b := invI (M1 c c))
  have hk2 := ker_scale h1 (c := c) hbe hb1
  obtain ⟨M2, hM2⟩ : ∃ M2, M2 = scaleI M1 c (invI (M1 c c)) := ⟨_, rfl⟩
  have hI2 : IdM R c M2 ∧ M2 c c = 1 := by
    constructor
    · intro i k hi hk
      rw [hM2]; unfold scaleI
      by_cases e1 : i = c
      · rw [if_pos e1, hI1 i k hi hk, e1]; unfold dl; rw [if_neg (by omega), mul_zero_l]
      · rw [if_neg e1]; exact hI1 i k hi hk
    · rw [hM2]; unfold scaleI
      rw [if_pos rfl, mulI_el (h1 c c hcR hcC) hbe, hmi]; rfl
  rw [← hM2] at h2 hk2
  have hs : stepI M c p = elimI M2 c := by unfold stepI; rw [← hM1, ← hM2]
  rw [hs]
  refine ⟨fun i k hi hk => (elim_at h2 hcR hcC i k hi hk).1, fun x => (ker_elim h2 hcR hcC x).trans ((hk2 x).trans (hk1 x)), fun i k hi hk => ?_⟩
  have he := elim_at h2 hcR hcC i k hi (by omega)
  rcases Nat.lt_or_ge k c with hkc | hkc
  · have : toG (M2 c k) = 0 := by rw [hI2.1 c k hcR hkc]; unfold dl; rw [if_neg (by omega)]; rfl
    rw [this, GF.mul_zero, GF.add_zero] at he
    have h3 := congrArg ofG he.2
    rwa [ofG_toG ((isEl_iff _).1 he.1).1 ((isEl_iff _).1 he.1).2, ofG_toG ((isEl_iff _).1 (h2 i k hi (by omega))).1 ((isEl_iff _).1 (h2 i k hi (by omega))).2, hI2.1 i k hi hkc] at h3
  · obtain rfl : k = c := by omega
    rw [hI2.2] at he
    have h3 := congrArg ofG he.2
    rw [ofG_toG ((isEl_iff _).1 he.1).1 ((isEl_iff _).1 he.1).2] at h3
    rw [h3]
    unfold dl
    by_cases e1 : i = k
    · rw [if_pos e1, if_pos e1, GF.zero_mul, GF.add_zero, e1, hI2.2]; rfl
    · rw [if_neg e1, if_neg e1, show toG 1 = 1 from rfl, GF.mul_one, GF.add_self]; rfl
theorem gj_ok (h : ElM R C M) : ∀ (c : Nat) (M' : Nat → Nat → Int), c ≤ C → gjI R M c = some M' → ElM R C M' ∧ (∀ x, KerM R C M' x ↔ KerM R C M x) ∧ IdM R c M' ∧ c ≤ R := by
  intro c
  induction c with
  | zero =>
    intro M' _ e
    obtain rfl := Option.some.inj e
    exact ⟨h, fun _ => Iff.rfl, fun _ _ _ hk => absurd hk (by omega), Nat.zero_le _⟩
  | succ c ih =>
    intro M' hc e
    unfold gjI at e
    cases h1 : gjI R M c with
    | none => rw [h1] at e; cases e
    | some M1 =>
      rw [h1] at e
      obtain ⟨a1, a2, a3, _⟩ := ih M1 (by omega) h1
      rcases pivot_spec M1 c R with ⟨hp, _⟩ | ⟨hp1, hp2, hp3⟩
      · simp only [hp, if_true] at e; cases e
      · simp only at e
        rw [if_neg (by omega)] at e
        obtain rfl := Option.some.inj e
        obtain ⟨b1, b2, b3⟩ := step_ok a1 hp1 hp2 (by omega) hp3 a3
        exact ⟨b1, fun x => (b2 x).trans (a2 x), b3, by omega⟩
theorem gj_none (h : ElM R C M) : ∀ (n : Nat), n ≤ C → gjI R M n = none → ∃ x : Nat → GF, (∃ k, k < n ∧ x k ≠ 0) ∧ (∀ k, n ≤ k → x k = 0) ∧ KerM R C M x := by
  intro n
  induction n with
  | zero => intro _ e; cases e
  | succ c ih =>
    intro hc e
    unfold gjI at e
    cases h1 : gjI R M c with
    | none =>
      obtain ⟨x, ⟨k, hk, hk0⟩, hz, hK⟩ := ih (by omega) h1
      exact ⟨x, ⟨k, by omega, hk0⟩, fun k hk => hz k (by omega), hK⟩
    | some M1 =>
      rw [h1] at e
      obtain ⟨a1, a2, a3, a4⟩ := gj_ok h c M1 (by omega) h1
      rcases pivot_spec M1 c R with ⟨hp, hz⟩ | ⟨hp1, hp2, hp3⟩
      · refine ⟨fun k => if k < c then toG (M1 k c) else if k = c then 1 else 0, ⟨c, by omega, ?_⟩, fun k hk => ?_, (a2 _).1 fun i hi => ?_⟩
        · simp [GF.one_ne_zero]
        · simp only; rw [if_neg (by omega), if_neg (by omega)]
        · obtain ⟨f, hf⟩ : ∃ f : Nat → GF, f = fun k => toG (M1 i k) * (if k < c then toG (M1 k c) else if k = c then 1 else 0) := ⟨_, rfl⟩
          have hbig : ∀ d, c + 1 + d ≤ C → gsum (c + 1 + d) f = gsum (c + 1) f := by
            intro d
            induction d with
            | zero => intro _; rfl
            | succ d ihd =>
              intro hd
              show gsum (c + 1 + d) f + f (c + 1 + d) = _
              rw [ihd (by omega), hf]
              simp only
              rw [if_neg (by omega), if_neg (by omega), GF.mul_zero, GF.add_zero]
          have hC := hbig (C - (c + 1)) (by omega)
          rw [show c + 1 + (C - (c + 1)) = C from by omega] at hC
          rw [← hf, hC]
          simp only [gsum]
          have hfc : f c = toG (M1 i c) := by rw [hf]; simp [GF.mul_one]
          have hlow : ∀ k, k < c → f k = if i = k then toG (M1 k c) else 0 := by
            intro k hk
            rw [hf]; simp only
            rw [a3 i k hi hk, if_pos hk]
            unfold dl
            by_cases e1 : i = k
            · rw [if_pos e1, if_pos e1, show toG 1 = 1 from rfl, GF.one_mul]
            · rw [if_neg e1, if_neg e1, show toG 0 = 0 from rfl, GF.zero_mul]
          rw [hfc]
          rcases Nat.lt_or_ge i c with hic | hic
          · rw [gsum_single c f i hic (fun k hk hne => by rw [hlow k hk, if_neg (fun q => hne q.symm)]), hlow i hic, if_pos rfl, GF.add_self]
          · rw [gsum_congr (g := fun _ => 0) (fun k hk => by rw [hlow k hk, if_neg (by omega)]), gsum_zero, hz i hic hi]; rfl
      · simp only at e
        rw [if_neg (by omega)] at e
        cases e
end
end Go.Proofs.Ytpkhgapifnjbeaa.G
end
section
namespace Go.Proofs.Ytpkhgapifnjbeaa.G
set_option linter.unusedVariables false
set_option linter.unusedSimpArgs false
open Go.RowKit Go.Proofs.YtpkhgapifnjbeaaW.PrintWords Go.Proofs.YtpkhgapifnjbeaaW.PrintLast Go.Proofs.YtpkhgapifnjbeaaW.PrintMore Go.Proofs.Ytpkhgapifnjbeaa.Rs
def placesOk (n : Nat) (ps : List Int) : Prop := ps.length ≤ 6 ∧ (∀ k, k < ps.length → 0 ≤ ps.getD k 0 ∧ ps.getD k 0 < n)
def rowF (n : Nat) (ps : List Int) (j : Nat) : List Int := ps.map fun p => atI n p ((j + 1 : Nat) : Int)
def matFill (l ps : List Int) : Nat → List (List Int)
  | 0 => []
  | j + 1 => matFill l ps j ++ [rowF l.length ps j ++ [ofG (psum l (j + 1) l.length)]]
theorem matFill_length (l ps : List Int) (j : Nat) : (matFill l ps j).length = j := by
  induction j with
  | zero => rfl
  | succ j ih => simp [matFill, ih]
theorem matFill_row (l ps : List Int) : ∀ (j x : Nat), x < j → (matFill l ps j).getD x [] = rowF l.length ps x ++ [ofG (psum l (x + 1) l.length)] := by
  intro j
  induction j with
  | zero => intro x hx; omega
  | succ j ih =>
    intro x hx
    simp only [matFill]
    rcases Nat.lt_or_ge x j with h | h
    · rw [List.getD_eq_getElem?_getD, List.getElem?_append_left (by rw [matFill_length]; exact h), ← List.getD_eq_getElem?_getD, ih x h]
    · obtain rfl : x = j := by omega
      rw [List.getD_eq_getElem?_getD, List.getElem?_append_right (by rw [matFill_length]; exact Nat.le_refl _), matFill_length]
      simp
def putTo (l ps ys : List Int) : Nat → List Int
  | 0 => l
  | i + 1 => (putTo l ps ys i).set (ps.getD i 0).toNat (xorI (mx (l.getD (ps.getD i 0).toNat 0) 0) (ys.getD i 0))
theorem putTo_length (l ps ys : List Int) (i : Nat) : (putTo l ps ys i).length = l.length := by
  induction i with
  | zero => rfl
  | succ i ih => simp only [putTo, List.length_set, ih]
def fillR (l ps : List Int) : List Int := if (solR 6 ps.length (matOf (matFill l ps 6))).2 = true then putTo l ps (solR 6 ps.length (matOf (matFill l ps 6))).1 ps.length else []
section
open Go.Proofs.Ytpkhgapifnjbeaa.F
theorem rd_nat {l : List Int} {p : Int} (h : 0 ≤ p) : rd l p = l.getD p.toNat 0 := by
  obtain ⟨n, rfl⟩ : ∃ n : Nat, p = n := ⟨p.toNat, by omega⟩
  rw [rd_cast, Int.toNat_natCast]
theorem fill_l2 (l ps ys : List Int) (hl : l.length ≤ 1000) (hp : placesOk l.length ps) (hy : ys.length = ps.length) : ∀ (d i k : Nat), i + d = ps.length → d < k → rscode_fill.l2 k l ys (putTo l ps ys i) ps (ps.length : Int) (i : Int) = some (putTo l ps ys ps.length) := by
  intro d
  induction d with
  | zero =>
    intro i k hi hk
    obtain ⟨k, rfl⟩ : ∃ m, k = m + 1 := ⟨k - 1, by omega⟩
    simp only [rscode_fill.l2]
    rw [if_neg (by omega)]
    obtain rfl : i = ps.length := by omega
    rfl
  | succ d ih =>
    intro i k hi hk
    obtain ⟨k, rfl⟩ : ∃ m, k = m + 1 := ⟨k - 1, by omega⟩
    have h6 := hp.1
    obtain ⟨hp0, hp1⟩ := hp.2 i (by omega)
    have hs : wrap64 ((i : Int) + 1) = ((i + 1 : Nat) : Int) := by unfold wrap64; omega
    simp only [rscode_fill.l2]
    rw [if_pos (by omega), if_pos (by omega), if_pos (by omega)]
    rw [rd_cast ps i, rd_cast ys i, rd_nat hp0, hs]
    rw [if_pos hp0, if_pos (by omega), if_pos (by omega), if_pos (by rw [putTo_length]; omega)]
    exact ih (i + 1) k (by omega) (by omega)
theorem fill_l1 (l ps : List Int) (x5 : List (List Int)) (syn : List Int) (s : Int) (j : Nat) (r : List Int) (K : Nat) (hj : j < 6) (h5 : x5.length < 1000) (hps : ps.length ≤ 6)
    (hc : ∀ k, K ≤ k → rscode_fill.l0 k l ps (x5 ++ [rowF l.length ps j ++ [s]]) syn ((j + 1 : Nat) : Int) = some r) :
    ∀ (d i k : Nat), i + d = ps.length → K + d < k → rscode_fill.l1 k l ps x5 (j : Int) s ((ps.take i).map fun p => atI l.length p ((j + 1 : Nat) : Int)) syn (j : Int) ps (ps.length : Int) (i : Int) = some r := by
  have hsj : wrap64 ((j : Int) + 1) = ((j + 1 : Nat) : Int) := by unfold wrap64; omega
  intro d
  induction d with
  | zero =>
    intro i k hi hk
    obtain ⟨k, rfl⟩ : ∃ m, k = m + 1 := ⟨k - 1, by omega⟩
    simp only [rscode_fill.l1]
    rw [if_neg (by omega), if_pos (by simp only [List.length_map, List.length_take]; omega), if_pos (by omega), hsj, List.take_of_length_le (by omega)]
    exact hc k (by omega)
  | succ d ih =>
    intro i k hi hk
    obtain ⟨k, rfl⟩ : ∃ m, k = m + 1 := ⟨k - 1, by omega⟩
    have hs : wrap64 ((i : Int) + 1) = ((i + 1 : Nat) : Int) := by unfold wrap64; omega
    simp only [rscode_fill.l1]
    rw [if_pos (by omega), if_pos (by omega), if_pos (by omega)]
    simp only [g_at.f, Option.bind_some]
    rw [if_pos (by simp only [List.length_map, List.length_take]; omega), hs, hsj, rd_cast]
    have := ih (i + 1) k (by omega) (by omega)
    rwa [List.take_add_one, List.getElem?_eq_getElem (by omega), List.map_append, show (List.map (fun p => atI l.length p ((j + 1 : Nat) : Int)) (some (ps[i]'(by omega))).toList) = [atI l.length (ps.getD i 0) ((j + 1 : Nat) : Int)] from by rw [List.getD_eq_getElem?_getD, List.getElem?_eq_getElem (by omega)]; rfl] at this
theorem rows_ok (l ps : List Int) (hps : ps.length ≤ 6) : rowsOk (matFill l ps 6) ((matFill l ps 6).headD []).length = true := by
  have hrow : ∀ x ∈ matFill l ps 6, x.length = ps.length + 1 := by
    intro x hx
    obtain ⟨i, hi, rfl⟩ := List.mem_iff_getElem.1 hx
    have := matFill_row l ps 6 i (by rwa [matFill_length] at hi)
    rw [List.getD_eq_getElem?_getD, List.getElem?_eq_getElem hi] at this
    simp only [Option.getD_some] at this
    rw [this]; simp [rowF]
  have hh : ((matFill l ps 6).headD []).length = ps.length + 1 := by
    apply hrow
    rw [List.headD_eq_head?_getD, List.head?_eq_getElem?, List.getElem?_eq_getElem (by rw [matFill_length]; omega)]
    exact List.getElem_mem _
  unfold rowsOk
  rw [hh, matFill_length]
  simp only [Bool.and_eq_true, decide_eq_true_eq, List.all_eq_true]
  exact ⟨by omega, hrow⟩
theorem solve_fill (l ps : List Int) (hps : ps.length ≤ 6) : g_solve.f (matFill l ps 6) = some (solR 6 ps.length (matOf (matFill l ps 6))) := by
  unfold g_solve.f
  rw [if_pos (rows_ok l ps hps), matFill_length]
  have hh : ((matFill l ps 6).headD []).length = ps.length + 1 := by
    have h0 := matFill_row l ps 6 0 (by omega)
    rw [List.headD_eq_head?_getD, List.head?_eq_getElem?, ← List.getD_eq_getElem?_getD, h0]
    simp [rowF]
  rw [hh, Nat.add_sub_cancel]
theorem solR_len {R n : Nat} {M : Nat → Nat → Int} (h : (solR R n M).2 = true) : (solR R n M).1.length = n := by
  unfold solR at h ⊢
  cases hg : gjI R M n with
  | none => rw [hg] at h; cases h
  | some M' =>
    rw [hg] at h
    simp only at h ⊢
    split at h
    · rw [if_pos (by assumption)]; simp
    · cases h
theorem fill_l0 (l ps : List Int) (hl : l.length ≤ 15) (hp : placesOk l.length ps) : ∀ (d j k : Nat), j + d = 6 → 20 + d * 10 < k → rscode_fill.l0 k l ps (matFill l ps j) (synI l) (j : Int) = some (fillR l ps) := by
  intro d
  induction d with
  | zero =>
    intro j k hj hk
    obtain ⟨k, rfl⟩ : ∃ m, k = m + 1 := ⟨k - 1, by omega⟩
    obtain rfl : j = 6 := by omega
    simp only [rscode_fill.l0]
    rw [if_neg (by omega), solve_fill l ps hp.1]
    simp only [Option.bind_some]
    unfold fillR
    by_cases hs : (solR 6 ps.length (matOf (matFill l ps 6))).2 = true
    · rw [if_pos hs, if_pos hs]
      unfold g_Clone.f
      rw [if_pos (by omega)]
      simp only [Option.bind_some]
      have := hp.1
      exact fill_l2 l ps _ (by omega) hp (solR_len hs) ps.length 0 k (by omega) (by omega)
    · rw [if_neg hs, if_neg hs]
  | succ d ih =>
    intro j k hj hk
    obtain ⟨k, rfl⟩ : ∃ m, k = m + 1 := ⟨k - 1, by omega⟩
    have hlen : (synI l).length = 6 := by simp [synI]
    simp only [rscode_fill.l0]
    rw [if_pos (by omega), if_pos (by omega), if_pos (by omega)]
    have hs : rd (synI l) (j : Int) = ofG (psum l (j + 1) l.length) := by
      rw [rd_cast]
      unfold synI
      rw [List.getD_eq_getElem?_getD, List.getElem?_map, List.getElem?_range (by omega)]
      rfl
    have hp6 := hp.1
    have hrow := fill_l1 l ps (matFill l ps j) (synI l) (ofG (psum l (j + 1) l.length)) j (fillR l ps) (20 + d * 10 + 1) (by omega) (by rw [matFill_length]; omega) hp6 (fun k hk => ih (j + 1) k (by omega) (by omega)) ps.length 0 k (by omega) (by omega)
    rw [hs]
    exact hrow
theorem fill_f (l ps : List Int) (hl : l.length ≤ 15) (hp : placesOk l.length ps) (k : Nat) (hk : 100 ≤ k) : rscode_fill.f k l ps = some (fillR l ps) := by
  unfold rscode_fill.f g_syn.f
  rw [if_pos hl]
  simp only [Option.bind_some]
  exact fill_l0 l ps hl hp 6 0 k (by omega) (by omega)
theorem fill_closed (l ps : List Int) (hl : l.length ≤ 15) (hp : placesOk l.length ps) : g_fill.f l ps = some (fillR l ps) := fill_f l ps hl hp 400 (by omega)
end
end Go.Proofs.Ytpkhgapifnjbeaa.G
end
section
namespace Go.Proofs.Ytpkhgapifnjbeaa.G
set_option linter.unusedVariables false
set_option linter.unusedSimpArgs false
open Go.RowKit Go.Proofs.YtpkhgapifnjbeaaW.PrintWords Go.Proofs.YtpkhgapifnjbeaaW.PrintLast Go.Proofs.YtpkhgapifnjbeaaW.PrintMore Go.Proofs.Ytpkhgapifnjbeaa.Rs
def zeroTo (l ps : List Int) : Nat → List Int
  | 0 => l
  | i + 1 => (zeroTo l ps i).set (ps.getD i 0).toNat 0
theorem zeroTo_length (l ps : List Int) (i : Nat) : (zeroTo l ps i).length = l.length := by
  induction i with
  | zero => rfl
  | succ i ih => simp only [zeroTo, List.length_set, ih]
def fillS (l ps : List Int) : List Int × Bool :=
  match gjI 6 (matOf (matFill (zeroTo l ps ps.length) ps 6)) ps.length with
  | none => ([], false)
  | some M => (tailTo ps M ps.length (zeroTo l ps ps.length), isCode (tailTo ps M ps.length (zeroTo l ps ps.length)))
theorem matOf_fill (l ps : List Int) (hps : ps.length ≤ 6) (i k : Nat) (hi : i < 6) : matOf (matFill l ps 6) i k = if k < ps.length then atI l.length (ps.getD k 0) ((i + 1 : Nat) : Int) else if k = ps.length then ofG (psum l (i + 1) l.length) else 0 := by
  unfold matOf
  rw [matFill_row l ps 6 i hi]
  by_cases h1 : k < ps.length
  · rw [if_pos h1, List.getD_eq_getElem?_getD, List.getElem?_append_left (by simpa [rowF] using h1)]
    unfold rowF
    rw [List.getElem?_map, List.getElem?_eq_getElem h1]
    rw [List.getD_eq_getElem?_getD, List.getElem?_eq_getElem h1]
    rfl
  · rw [if_neg h1]
    by_cases h2 : k = ps.length
    · rw [if_pos h2, List.getD_eq_getElem?_getD, List.getElem?_append_right (by simp [rowF]; omega)]
      simp [rowF, h2]
    · rw [if_neg h2, List.getD_eq_getElem?_getD, List.getElem?_eq_none (by simp [rowF]; omega)]; rfl
theorem isEl_atI (n : Nat) (p j : Int) : isEl (atI n p j) = true := isEl_powI _
theorem el_fill (l ps : List Int) (hps : ps.length ≤ 6) : ElM 6 (ps.length + 1) (matOf (matFill l ps 6)) := by
  intro i k hi hk
  rw [matOf_fill l ps hps i k hi]
  split
  · exact isEl_atI _ _ _
  · split
    · exact isEl_ofG _
    · rfl
section
open Go.Proofs.Ytpkhgapifnjbeaa.R
theorem Fill_l2 (n : Nat) (ps o : List Int) (x9 : List (List Int)) (s : Int) (j : Nat) (r : List Int × Bool) (K : Nat) (hj : j < 6) (h5 : x9.length < 1000) (hps : ps.length ≤ 6) (hs : r_Syn.f o ((j + 1 : Nat) : Int) = some s)
    (hc : ∀ k, K ≤ k → awardingbodyref18_Fill.l1 k ps (n : Int) o (x9 ++ [rowF n ps j ++ [s]]) ((j + 2 : Nat) : Int) = some r) :
    ∀ (d i k : Nat), i + d = ps.length → K + d < k → awardingbodyref18_Fill.l2 k ps (n : Int) o x9 ((j + 1 : Nat) : Int) ((ps.take i).map fun p => atI n p ((j + 1 : Nat) : Int)) (i : Int) = some r := by
  have hsj : wrap64 (((j + 1 : Nat) : Int) + 1) = ((j + 2 : Nat) : Int) := by unfold wrap64; omega
  intro d
  induction d with
  | zero =>
    intro i k hi hk
    obtain ⟨k, rfl⟩ : ∃ m, k = m + 1 := ⟨k - 1, by omega⟩
    simp only [awardingbodyref18_Fill.l2]
    rw [if_neg (by omega), hs]
    simp only [Option.bind_some]
    rw [if_pos (by simp only [List.length_map, List.length_take]; omega), if_pos (by omega), hsj, List.take_of_length_le (by omega)]
    exact hc k (by omega)
  | succ d ih =>
    intro i k hi hk
    obtain ⟨k, rfl⟩ : ∃ m, k = m + 1 := ⟨k - 1, by omega⟩
    have hs : wrap64 ((i : Int) + 1) = ((i + 1 : Nat) : Int) := by unfold wrap64; omega
    simp only [awardingbodyref18_Fill.l2]
    rw [if_pos (by omega), if_pos (by omega)]
    simp only [r_Power.f, Option.bind_some]
    rw [if_pos (by simp only [List.length_map, List.length_take]; omega), hs, rd_cast]
    have := ih (i + 1) k (by omega) (by omega)
    rwa [List.take_add_one, List.getElem?_eq_getElem (by omega), List.map_append, show (List.map (fun p => atI n p ((j + 1 : Nat) : Int)) (some (ps[i]'(by omega))).toList) = [atI n (ps.getD i 0) ((j + 1 : Nat) : Int)] from by rw [List.getD_eq_getElem?_getD, List.getElem?_eq_getElem (by omega)]; rfl] at this
theorem tail_ok (o ps : List Int) (h1 : 1 ≤ o.length) (hl : o.length ≤ 15) (hp : placesOk o.length ps) : tailOk o (matFill o ps 6) ps = true := by
  have h6 := hp.1
  unfold tailOk
  simp only [Bool.and_eq_true, decide_eq_true_eq, List.all_eq_true, matFill_length]
  refine ⟨⟨⟨by trivial, h6, h1, hl⟩, fun x hx => ?_⟩, fun x hx => ?_⟩
  · obtain ⟨i, hi, rfl⟩ := List.mem_iff_getElem.1 hx
    have := hp.2 i hi
    rw [List.getD_eq_getElem?_getD, List.getElem?_eq_getElem hi] at this
    exact this
  · obtain ⟨i, hi, rfl⟩ := List.mem_iff_getElem.1 hx
    have hi6 : i < 6 := by rwa [matFill_length] at hi
    have hr := matFill_row o ps 6 i hi6
    rw [List.getD_eq_getElem?_getD, List.getElem?_eq_getElem hi] at hr
    simp only [Option.getD_some] at hr
    rw [hr]
    refine ⟨by simp [rowF], fun y hy => ?_⟩
    rcases List.mem_append.1 hy with h | h
    · obtain ⟨p, _, rfl⟩ := List.mem_map.1 h
      exact isEl_atI _ _ _
    · rw [List.mem_singleton.1 h]; exact isEl_ofG _
theorem tail_f (o ps : List Int) (h1 : 1 ≤ o.length) (hl : o.length ≤ 15) (hp : placesOk o.length ps) : g_tail.f o (matFill o ps 6) ps = some (match gjI 6 (matOf (matFill o ps 6)) ps.length with
    | none => ([], false)
    | some M => (tailTo ps M ps.length o, isCode (tailTo ps M ps.length o))) := by
  unfold g_tail.f
  rw [if_pos (tail_ok o ps h1 hl hp)]
  cases gjI 6 (matOf (matFill o ps 6)) ps.length <;> rfl
theorem Fill_l1 (o ps : List Int) (h1 : 1 ≤ o.length) (hl : o.length ≤ 15) (hp : placesOk o.length ps) (he : allEl o = true) : ∀ (d j k : Nat), j + d = 6 → d * 10 + 5 < k → awardingbodyref18_Fill.l1 k ps (o.length : Int) o (matFill o ps j) ((j + 1 : Nat) : Int) = some (match gjI 6 (matOf (matFill o ps 6)) ps.length with
    | none => ([], false)
    | some M => (tailTo ps M ps.length o, isCode (tailTo ps M ps.length o))) := by
  intro d
  induction d with
  | zero =>
    intro j k hj hk
    obtain ⟨k, rfl⟩ : ∃ m, k = m + 1 := ⟨k - 1, by omega⟩
    obtain rfl : j = 6 := by omega
    simp only [awardingbodyref18_Fill.l1]
    rw [if_neg (by omega), tail_f o ps h1 hl hp]
    simp only [Option.bind_some]
  | succ d ih =>
    intro j k hj hk
    obtain ⟨k, rfl⟩ : ∃ m, k = m + 1 := ⟨k - 1, by omega⟩
    have h6 := hp.1
    simp only [awardingbodyref18_Fill.l1]
    rw [if_pos (by omega)]
    refine Fill_l2 o.length ps o (matFill o ps j) (ofG (psum o (j + 1) o.length)) j _ (d * 10 + 6) (by omega) (by rw [matFill_length]; omega) h6 ?_ (fun k hk => ih (j + 1) k (by omega) (by omega)) ps.length 0 k (by omega) (by omega)
    unfold r_Syn.f
    rw [if_pos ⟨he, by omega, by omega⟩]
    rfl
theorem Fill_l0 (l ps : List Int) (h1 : 1 ≤ l.length) (hl : l.length ≤ 15) (hp : placesOk l.length ps) (he : allEl (zeroTo l ps ps.length) = true) : ∀ (d i k : Nat), i + d = ps.length → d + 70 < k → awardingbodyref18_Fill.l0 k ps (l.length : Int) (zeroTo l ps i) (i : Int) = some (fillS l ps) := by
  intro d
  induction d with
  | zero =>
    intro i k hi hk
    obtain ⟨k, rfl⟩ : ∃ m, k = m + 1 := ⟨k - 1, by omega⟩
    obtain rfl : i = ps.length := by omega
    simp only [awardingbodyref18_Fill.l0]
    rw [if_neg (by omega)]
    have := Fill_l1 (zeroTo l ps ps.length) ps (by rw [zeroTo_length]; exact h1) (by rw [zeroTo_length]; exact hl) (by rw [zeroTo_length]; exact hp) he 6 0 k (by omega) (by omega)
    rw [zeroTo_length] at this
    exact this
  | succ d ih =>
    intro i k hi hk
    obtain ⟨k, rfl⟩ : ∃ m, k = m + 1 := ⟨k - 1, by omega⟩
    obtain ⟨hp0, hp1⟩ := hp.2 i (by omega)
    have h6 := hp.1
    have hs : wrap64 ((i : Int) + 1) = ((i + 1 : Nat) : Int) := by unfold wrap64; omega
    simp only [awardingbodyref18_Fill.l0]
    rw [if_pos (by omega), if_pos (by omega), rd_cast, if_pos hp0, if_pos (by rw [zeroTo_length]; exact hp1), hs]
    exact ih (i + 1) k (by omega) (by omega)
theorem Fill_f (l ps : List Int) (h1 : 1 ≤ l.length) (hl : l.length ≤ 15) (hp : placesOk l.length ps) (he : allEl (zeroTo l ps ps.length) = true) (k : Nat) (hk : 100 ≤ k) : awardingbodyref18_Fill.f k l ps = some (fillS l ps) := by
  have h6 := hp.1
  unfold awardingbodyref18_Fill.f g_Clone.f
  rw [if_pos (by omega)]
  simp only [Option.bind_some]
  exact Fill_l0 l ps h1 hl hp he ps.length 0 k (by omega) (by omega)
theorem Fill_closed (l ps : List Int) (h1 : 1 ≤ l.length) (hl : l.length ≤ 15) (hp : placesOk l.length ps) (he : allEl (zeroTo l ps ps.length) = true) : r_Fill.f l ps = some (fillS l ps) := Fill_f l ps h1 hl hp he 400 (by omega)
end
end Go.Proofs.Ytpkhgapifnjbeaa.G
end
section
namespace Go.Proofs.Ytpkhgapifnjbeaa.G
set_option linter.unusedVariables false
set_option linter.unusedSimpArgs false
open Go.RowKit Go.Proofs.Ytpkhgapifnjbeaa.Rs
def SolM (R n : Nat) (M : Nat → Nat → Int) (y : Nat → GF) : Prop := ∀ i, i < R → gsum n (fun k => toG (M i k) * y k) = toG (M i n)
def Indep (R n : Nat) (M : Nat → Nat → Int) : Prop := ∀ y : Nat → GF, (∀ i, i < R → gsum n (fun k => toG (M i k) * y k) = 0) → ∀ k, k < n → y k = 0
theorem ker_ext {R n : Nat} {M : Nat → Nat → Int} (y : Nat → GF) : KerM R (n + 1) M (fun k => if k < n then y k else 1) ↔ SolM R n M y := by
  have e : ∀ i, gsum (n + 1) (fun k => toG (M i k) * (if k < n then y k else 1)) = gsum n (fun k => toG (M i k) * y k) + toG (M i n) := by
    intro i
    show gsum n _ + toG (M i n) * (if n < n then y n else 1) = _
    rw [if_neg (by omega), GF.mul_one]
    congr 1
    exact gsum_congr fun k hk => by rw [if_pos hk]
  refine ⟨fun h i hi => GF.eq_of_add (by rw [← e i]; exact h i hi), fun h i hi => by rw [e i, h i hi, GF.add_self]⟩
theorem id_sum {R n : Nat} {M : Nat → Nat → Int} (h : IdM R n M) (y : Nat → GF) (i : Nat) (hi : i < R) : gsum n (fun k => toG (M i k) * y k) = if i < n then y i else 0 := by
  have hlow : ∀ k, k < n → toG (M i k) * y k = if i = k then y k else 0 := by
    intro k hk
    rw [h i k hi hk]
    unfold dl
    by_cases e1 : i = k
    · rw [if_pos e1, if_pos e1, show toG 1 = 1 from rfl, GF.one_mul]
    · rw [if_neg e1, if_neg e1, show toG 0 = 0 from rfl, GF.zero_mul]
  by_cases hin : i < n
  · rw [if_pos hin, gsum_single n _ i hin (fun k hk hne => by rw [hlow k hk, if_neg (fun q => hne q.symm)]), hlow i hin, if_pos rfl]
  · rw [if_neg hin, gsum_congr (g := fun _ => 0) (fun k hk => by rw [hlow k hk, if_neg (by omega)]), gsum_zero]
theorem gj_some {R n : Nat} {M : Nat → Nat → Int} (he : ElM R (n + 1) M) (hi : Indep R n M) : ∃ M', gjI R M n = some M' ∧ ElM R (n + 1) M' ∧ IdM R n M' ∧ n ≤ R ∧ ∀ y, SolM R n M y ↔ ∀ i, i < R → (if i < n then y i else 0) = toG (M' i n) := by
  cases hg : gjI R M n with
  | none =>
    obtain ⟨x, ⟨k, hk, hk0⟩, hz, hK⟩ := gj_none he n (by omega) hg
    refine absurd (hi x (fun i hi => ?_) k hk) hk0
    have := hK i hi
    simp only [gsum] at this
    rwa [hz n (Nat.le_refl _), GF.mul_zero, GF.add_zero] at this
  | some M' =>
    obtain ⟨a1, a2, a3, a4⟩ := gj_ok he n M' (by omega) hg
    refine ⟨M', rfl, a1, a3, a4, fun y => ?_⟩
    rw [← ker_ext, ← a2, ker_ext]
    refine ⟨fun h i hi => ?_, fun h i hi => ?_⟩
    · rw [← id_sum a3 y i hi]; exact h i hi
    · show gsum n _ = _
      rw [id_sum a3 y i hi]; exact h i hi
theorem gj_at {R n : Nat} {M M' : Nat → Nat → Int} (he : ElM R (n + 1) M') {y : Nat → GF} (h : ∀ i, i < R → (if i < n then y i else 0) = toG (M' i n)) (k : Nat) (hk : k < n) (hR : n ≤ R) : M' k n = ofG (y k) := by
  have := h k (by omega)
  rw [if_pos hk] at this
  rw [this, ofG_toG ((isEl_iff _).1 (he k n (by omega) (by omega))).1 ((isEl_iff _).1 (he k n (by omega) (by omega))).2]
theorem getD_range (n k : Nat) (f : Nat → Int) (hk : k < n) : ((List.range n).map f).getD k 0 = f k := by
  rw [List.getD_eq_getElem?_getD, List.getElem?_map, List.getElem?_range hk]; rfl
theorem solR_found {R n : Nat} {M : Nat → Nat → Int} (he : ElM R (n + 1) M) (hi : Indep R n M) {y : Nat → GF} (hy : SolM R n M y) : (solR R n M).2 = true ∧ ∀ k, k < n → (solR R n M).1.getD k 0 = ofG (y k) := by
  obtain ⟨M', hg, a1, a3, a4, hs⟩ := gj_some he hi
  have h := (hs y).1 hy
  have hz : ∀ i, n ≤ i → i < R → M' i n = 0 := fun i h1 h2 => by
    have := h i h2
    rw [if_neg (by omega)] at this
    exact (toG_eq_zero (a1 i n h2 (by omega))).1 this.symm
  rw [solR_good hg hz]
  exact ⟨rfl, fun k hk => by rw [getD_range n k _ hk]; exact gj_at (M := M) a1 h k hk a4⟩
theorem solR_sol {R n : Nat} {M : Nat → Nat → Int} (he : ElM R (n + 1) M) (hi : Indep R n M) (h2 : (solR R n M).2 = true) : SolM R n M (fun k => toG ((solR R n M).1.getD k 0)) ∧ ∀ k, k < n → isEl ((solR R n M).1.getD k 0) = true := by
  obtain ⟨M', hg, a1, a3, a4, hs⟩ := gj_some he hi
  by_cases hz : ∀ i, n ≤ i → i < R → M' i n = 0
  · rw [solR_good hg hz]
    refine ⟨(hs _).2 fun i hi => ?_, fun k hk => by rw [getD_range n k _ hk]; exact a1 k n (by omega) (by omega)⟩
    by_cases hin : i < n
    · rw [if_pos hin]; simp only; rw [getD_range n i _ hin]
    · rw [if_neg hin, hz i (by omega) hi]; rfl
  · have : ∃ i, n ≤ i ∧ i < R ∧ M' i n ≠ 0 := Classical.byContradiction fun hh => hz fun i h1 h2 => Classical.byContradiction fun h3 => hh ⟨i, h1, h2, h3⟩
    obtain ⟨i, h3, h4, h5⟩ := this
    rw [solR_bad hg h4 h3 h5] at h2
    cases h2
theorem solR_square {n : Nat} {M : Nat → Nat → Int} (he : ElM n (n + 1) M) (hi : Indep n n M) : (solR n n M).2 = true := by
  obtain ⟨M', hg, a1, a3, a4, hs⟩ := gj_some he hi
  rw [solR_good hg (fun i h1 h2 => absurd h1 (by omega))]
theorem gsum_support (n : Nat) (f : Nat → GF) (p : Nat → Nat) : ∀ (m : Nat) (f : Nat → GF), (∀ k, k < m → p k < n) → (∀ i j, i < m → j < m → p i = p j → i = j) → (∀ i, i < n → (∀ k, k < m → p k ≠ i) → f i = 0) → gsum n f = gsum m (fun k => f (p k)) := by
  intro m
  induction m with
  | zero =>
    intro f _ _ hz
    show gsum n f = 0
    rw [gsum_congr (g := fun _ => 0) (fun i hi => hz i hi (fun k hk => by omega)), gsum_zero]
  | succ m ih =>
    intro f hp hi hz
    obtain ⟨f1, hf1⟩ : ∃ f1 : Nat → GF, f1 = fun i => if i = p m then 0 else f i := ⟨_, rfl⟩
    obtain ⟨f2, hf2⟩ : ∃ f2 : Nat → GF, f2 = fun i => if i = p m then f i else 0 := ⟨_, rfl⟩
    have h1 := ih f1 (fun k hk => hp k (by omega)) (fun i j h1 h2 => hi i j (by omega) (by omega)) (fun i hin hk => by
      rw [hf1]; simp only
      by_cases e : i = p m
      · rw [if_pos e]
      · rw [if_neg e]
        refine hz i hin fun k hk' => ?_
        rcases Nat.lt_or_ge k m with h | h
        · exact hk k h
        · rw [show k = m from by omega]; exact fun q => e q.symm)
    have h2 : gsum n f2 = f (p m) := by
      rw [gsum_single n f2 (p m) (hp m (by omega)) (fun i _ hne => by rw [hf2]; simp only; rw [if_neg hne])]
      rw [hf2]; simp
    have h3 : gsum n f = gsum n f1 + gsum n f2 := by
      rw [← gsum_add]
      refine gsum_congr fun i hin => ?_
      rw [hf1, hf2]; simp only
      by_cases e : i = p m
      · rw [if_pos e, if_pos e, GF.zero_add]
      · rw [if_neg e, if_neg e, GF.add_zero]
    rw [h3, h1, h2]
    show _ = gsum m _ + _
    congr 1
    refine gsum_congr fun k hk => ?_
    rw [hf1]; simp only
    rw [if_neg (fun e => by have := hi k m (by omega) (by omega) e; omega)]
def PS (ps : List Int) (k : Nat) : Nat := (ps.getD k 0).toNat
def XP (n : Nat) (ps : List Int) (k : Nat) : GF := GF.ex (n - 1 - PS ps k)
def placesD (n : Nat) (ps : List Int) : Prop := placesOk n ps ∧ ∀ i j, i < ps.length → j < ps.length → PS ps i = PS ps j → i = j
theorem ex_pw (a j : Nat) : GF.ex (j * a) = GF.pw (GF.ex a) j := by rw [Nat.mul_comm, GF.ex_mul]
theorem atI_eq {n : Nat} (hn : n ≤ 100) {p : Int} (h0 : 0 ≤ p) (h1 : p < n) (j : Nat) (hj : j ≤ 100) : atI n p (j : Int) = ofG (GF.pw (GF.ex (n - 1 - p.toNat)) j) := by
  unfold atI powI
  have e1 : wrap64 ((n : Int) - 1) = ((n - 1 : Nat) : Int) := by unfold wrap64; omega
  have e2 : wrap64 (((n - 1 : Nat) : Int) - p) = ((n - 1 - p.toNat : Nat) : Int) := by unfold wrap64; omega
  have hb : j * (n - 1 - p.toNat) ≤ 100 * 100 := Nat.mul_le_mul hj (by omega)
  have e3 : wrap64 ((j : Int) * ((n - 1 - p.toNat : Nat) : Int)) = ((j * (n - 1 - p.toNat) : Nat) : Int) := by
    rw [← Int.natCast_mul]
    generalize j * (n - 1 - p.toNat) = q at hb
    unfold wrap64; omega
  rw [e1, e2, e3, ← ex_pw]
  congr 1
  rw [show (((j * (n - 1 - p.toNat) : Nat) : Int) % 31).toNat = (j * (n - 1 - p.toNat)) % 31 from by omega, ← GF.ex_mod]
section
variable {l c c' ps : List Int}
theorem placesD.lt (hp : placesD l.length ps) {k : Nat} (hk : k < ps.length) : PS ps k < l.length := by
  have := hp.1.2 k hk
  unfold PS; omega
theorem XP_ne (n : Nat) (ps : List Int) (k : Nat) : XP n ps k ≠ 0 := GF.ex_ne_zero _
theorem XP_inj (hn : l.length ≤ 15) (hp : placesD l.length ps) : ∀ i j, i < ps.length → j < ps.length → XP l.length ps i = XP l.length ps j → i = j := by
  intro i j hi hj e
  have h1 := hp.lt hi
  have h2 := hp.lt hj
  have := GF.ex_inj (by omega) (by omega) e
  exact hp.2 i j hi hj (by omega)
structure FillOf (l ps c : List Int) : Prop where
  len : c.length = l.length
  agree : ∀ i, i < l.length → (∀ k, k < ps.length → PS ps k ≠ i) → c.getD i 0 = l.getD i 0
  els : ∀ k, k < ps.length → isEl (c.getD (PS ps k) 0) = true
  cw : ∀ j, j < 6 → psum c (j + 1) c.length = 0
theorem psum_diff (hp : placesD l.length ps) (hl : c.length = l.length) (ha : ∀ i, i < l.length → (∀ k, k < ps.length → PS ps k ≠ i) → c.getD i 0 = l.getD i 0) (j : Nat) :
    psum l j l.length + psum c j c.length = gsum ps.length (fun k => (vG (l.getD (PS ps k) 0) + vG (c.getD (PS ps k) 0)) * GF.pw (XP l.length ps k) j) := by
  unfold psum
  rw [hl, ← gsum_add]
  rw [gsum_congr (g := fun i => (vG (l.getD i 0) + vG (c.getD i 0)) * GF.pw (GF.ex (l.length - 1 - i)) j) (fun i hi => by rw [← GF.add_mul, ex_pw])]
  rw [gsum_support l.length (fun _ => 0) (PS ps) ps.length _ (fun k hk => hp.lt hk) hp.2 (fun i hi hk => by rw [ha i hi hk, GF.add_self, GF.zero_mul])]
  rfl
theorem indep_fill (hn : l.length ≤ 15) (hp : placesD l.length ps) : Indep 6 ps.length (matOf (matFill l ps 6)) := by
  intro y hy
  have h6 := hp.1.1
  refine vand ps.length (XP l.length ps) y 1 (fun i _ => XP_ne _ _ _) (XP_inj hn hp) fun j hj => ?_
  rw [← hy j (by omega)]
  refine gsum_congr fun k hk => ?_
  obtain ⟨h0, h1⟩ := hp.1.2 k hk
  rw [matOf_fill l ps h6 j k (by omega), if_pos hk, atI_eq (by omega) h0 h1 (j + 1) (by omega), toG_ofG, Nat.add_comm 1 j]
  exact GF.mul_comm _ _
theorem sol_fill (hn : l.length ≤ 15) (hp : placesD l.length ps) (y : Nat → GF) : SolM 6 ps.length (matOf (matFill l ps 6)) y ↔ ∀ j, j < 6 → gsum ps.length (fun k => y k * GF.pw (XP l.length ps k) (j + 1)) = psum l (j + 1) l.length := by
  have h6 := hp.1.1
  have e : ∀ j, j < 6 → gsum ps.length (fun k => toG (matOf (matFill l ps 6) j k) * y k) = gsum ps.length (fun k => y k * GF.pw (XP l.length ps k) (j + 1)) ∧ toG (matOf (matFill l ps 6) j ps.length) = psum l (j + 1) l.length := by
    intro j hj
    refine ⟨gsum_congr fun k hk => ?_, ?_⟩
    · obtain ⟨h0, h1⟩ := hp.1.2 k hk
      rw [matOf_fill l ps h6 j k hj, if_pos hk, atI_eq (by omega) h0 h1 (j + 1) (by omega), toG_ofG]
      exact GF.mul_comm _ _
    · rw [matOf_fill l ps h6 j _ hj, if_neg (by omega), if_pos rfl, toG_ofG]
  refine ⟨fun h j hj => ?_, fun h j hj => ?_⟩
  · rw [← (e j hj).1, ← (e j hj).2]; exact h j hj
  · rw [(e j hj).1, (e j hj).2]; exact h j hj
theorem FillOf.sol (hn : l.length ≤ 15) (hp : placesD l.length ps) (h : FillOf l ps c) : SolM 6 ps.length (matOf (matFill l ps 6)) (fun k => vG (l.getD (PS ps k) 0) + vG (c.getD (PS ps k) 0)) := by
  rw [sol_fill hn hp]
  intro j hj
  rw [← psum_diff hp h.len h.agree, h.cw j hj, GF.add_zero]
theorem FillOf.uniq (hn : l.length ≤ 15) (hp : placesD l.length ps) (h : FillOf l ps c) (h' : FillOf l ps c') : c = c' := by
  have hy := indep_fill hn hp (fun k => vG (c.getD (PS ps k) 0) + vG (c'.getD (PS ps k) 0)) (fun i hi => by
    have h6 := hp.1.1
    have e := psum_diff (l := c) (c := c') (ps := ps) (by rw [h.len]; exact hp) (by rw [h.len, h'.len]) (fun i hi hk => by rw [h.agree i (by rw [← h.len]; exact hi) hk, h'.agree i (by rw [← h.len]; exact hi) hk]) (i + 1)
    rw [h.cw i hi, h'.cw i hi, GF.add_zero, h.len] at e
    rw [e]
    refine gsum_congr fun k hk => ?_
    obtain ⟨h0, h1⟩ := hp.1.2 k hk
    rw [matOf_fill l ps h6 i k hi, if_pos hk, atI_eq (by omega) h0 h1 (i + 1) (by omega), toG_ofG]
    exact GF.mul_comm _ _)
  apply List.ext_getElem (by rw [h.len, h'.len])
  intro i h1 h2
  have e : c.getD i 0 = c'.getD i 0 := by
    by_cases hk : ∃ k, k < ps.length ∧ PS ps k = i
    · obtain ⟨k, hk, rfl⟩ := hk
      have := GF.eq_of_add (hy k hk)
      rw [← ofG_vG (h.els k hk), this, ofG_vG (h'.els k hk)]
    · have hk' : ∀ k, k < ps.length → PS ps k ≠ i := fun k hk1 e => hk ⟨k, hk1, e⟩
      rw [h.agree i (by rw [← h.len]; exact h1) hk', h'.agree i (by rw [← h.len]; exact h1) hk']
  rwa [List.getD_eq_getElem?_getD, List.getD_eq_getElem?_getD, List.getElem?_eq_getElem h1, List.getElem?_eq_getElem h2] at e
end
end Go.Proofs.Ytpkhgapifnjbeaa.G
end
section
namespace Go.Proofs.Ytpkhgapifnjbeaa.G
set_option linter.unusedVariables false
set_option linter.unusedSimpArgs false
open Go.RowKit Go.Proofs.YtpkhgapifnjbeaaW.PrintWords Go.Proofs.YtpkhgapifnjbeaaW.PrintLast Go.Proofs.YtpkhgapifnjbeaaW.PrintMore Go.Proofs.Ytpkhgapifnjbeaa.Rs
def setsTo (l ps : List Int) (v : Nat → Int) : Nat → List Int
  | 0 => l
  | i + 1 => (setsTo l ps v i).set (PS ps i) (v i)
theorem setsTo_length (l ps : List Int) (v : Nat → Int) (i : Nat) : (setsTo l ps v i).length = l.length := by
  induction i with
  | zero => rfl
  | succ i ih => simp only [setsTo, List.length_set, ih]
theorem putTo_sets (l ps ys : List Int) (i : Nat) : putTo l ps ys i = setsTo l ps (fun k => xorI (mx (l.getD (PS ps k) 0) 0) (ys.getD k 0)) i := by
  induction i with
  | zero => rfl
  | succ i ih => simp only [putTo, setsTo, ih]; rfl
theorem tailTo_sets (o ps : List Int) (M : Nat → Nat → Int) (i : Nat) : tailTo ps M i o = setsTo o ps (fun k => M k ps.length) i := by
  induction i with
  | zero => rfl
  | succ i ih => simp only [tailTo, setsTo, ih, rd_cast]; rfl
theorem zeroTo_sets (l ps : List Int) (i : Nat) : zeroTo l ps i = setsTo l ps (fun _ => 0) i := by
  induction i with
  | zero => rfl
  | succ i ih => simp only [zeroTo, setsTo, ih]; rfl
theorem getD_set (l : List Int) (i j : Nat) (x : Int) : (l.set i x).getD j 0 = if i = j ∧ i < l.length then x else l.getD j 0 := by
  rw [List.getD_eq_getElem?_getD, List.getElem?_set, List.getD_eq_getElem?_getD]
  by_cases e : i = j
  · subst e
    by_cases h : i < l.length
    · simp [h]
    · simp [h]
  · simp [e]
theorem setsTo_off (l ps : List Int) (v : Nat → Int) (i : Nat) : ∀ m, (∀ k, k < m → PS ps k ≠ i) → (setsTo l ps v m).getD i 0 = l.getD i 0 := by
  intro m
  induction m with
  | zero => intro _; rfl
  | succ m ih =>
    intro h
    simp only [setsTo]
    rw [getD_set, if_neg (fun q => h m (by omega) q.1), ih (fun k hk => h k (by omega))]
theorem setsTo_at {l ps : List Int} (hp : placesD l.length ps) (v : Nat → Int) : ∀ m k, m ≤ ps.length → k < m → (setsTo l ps v m).getD (PS ps k) 0 = v k := by
  intro m
  induction m with
  | zero => intro k _ hk; omega
  | succ m ih =>
    intro k hm hk
    simp only [setsTo]
    rw [getD_set, setsTo_length]
    by_cases e : k = m
    · subst e
      rw [if_pos ⟨rfl, hp.lt (by omega)⟩]
    · rw [if_neg (fun q => e (hp.2 m k (by omega) (by omega) q.1).symm)]
      exact ih k (by omega) (by omega)
theorem mx_vG {x : Int} (h : -1 ≤ x ∧ x ≤ 31) : mx x 0 = ofG (vG x) := by
  unfold mx
  by_cases h0 : x < 0
  · rw [if_pos h0]
    unfold vG
    rw [if_neg (by simp [isEl]; omega)]; rfl
  · rw [if_neg h0, ofG_vG (by simp [isEl]; omega)]
section
variable {l c ps : List Int}
theorem fillR_found (hn : l.length ≤ 15) (hp : placesD l.length ps) (hw : ∀ k, k < ps.length → -1 ≤ l.getD (PS ps k) 0 ∧ l.getD (PS ps k) 0 ≤ 31) (h : FillOf l ps c) : fillR l ps = c := by
  have h6 := hp.1.1
  obtain ⟨h2, hy⟩ := solR_found (el_fill l ps h6) (indep_fill hn hp) (h.sol hn hp)
  unfold fillR
  rw [if_pos h2, putTo_sets]
  apply List.ext_getElem (by rw [setsTo_length, h.len])
  intro i h1 h3
  have e : (setsTo l ps (fun k => xorI (mx (l.getD (PS ps k) 0) 0) ((solR 6 ps.length (matOf (matFill l ps 6))).1.getD k 0)) ps.length).getD i 0 = c.getD i 0 := by
    by_cases hk : ∃ k, k < ps.length ∧ PS ps k = i
    · obtain ⟨k, hk, rfl⟩ := hk
      rw [setsTo_at hp _ _ _ (Nat.le_refl _) hk, hy k hk, mx_vG (hw k hk), xorI_of]
      rw [← GF.add_assoc, GF.add_self, GF.zero_add, ofG_vG (h.els k hk)]
    · have hk' : ∀ k, k < ps.length → PS ps k ≠ i := fun k hk1 e => hk ⟨k, hk1, e⟩
      rw [setsTo_off _ _ _ _ _ hk', h.agree i (by rw [setsTo_length] at h1; exact h1) hk']
  rwa [List.getD_eq_getElem?_getD, List.getD_eq_getElem?_getD, List.getElem?_eq_getElem h1, List.getElem?_eq_getElem h3] at e
theorem fillR_is (hn : l.length ≤ 15) (hp : placesD l.length ps) (hw : ∀ k, k < ps.length → -1 ≤ l.getD (PS ps k) 0 ∧ l.getD (PS ps k) 0 ≤ 31) : fillR l ps = [] ∨ FillOf l ps (fillR l ps) := by
  have h6 := hp.1.1
  unfold fillR
  by_cases h2 : (solR 6 ps.length (matOf (matFill l ps 6))).2 = true
  · rw [if_pos h2]
    refine .inr ?_
    obtain ⟨hs, hel⟩ := solR_sol (el_fill l ps h6) (indep_fill hn hp) h2
    rw [sol_fill hn hp] at hs
    rw [putTo_sets]
    obtain ⟨ys, hys⟩ : ∃ ys, ys = (solR 6 ps.length (matOf (matFill l ps 6))).1 := ⟨_, rfl⟩
    rw [← hys] at hs hel ⊢
    have hv : ∀ k, k < ps.length → xorI (mx (l.getD (PS ps k) 0) 0) (ys.getD k 0) = ofG (vG (l.getD (PS ps k) 0) + toG (ys.getD k 0)) := by
      intro k hk
      rw [mx_vG (hw k hk), ← xorI_of, ofG_toG ((isEl_iff _).1 (hel k hk)).1 ((isEl_iff _).1 (hel k hk)).2]
    have hag : ∀ i, i < l.length → (∀ k, k < ps.length → PS ps k ≠ i) → (setsTo l ps (fun k => xorI (mx (l.getD (PS ps k) 0) 0) (ys.getD k 0)) ps.length).getD i 0 = l.getD i 0 := fun i hi hk => setsTo_off _ _ _ _ _ hk
    refine ⟨setsTo_length _ _ _ _, hag, fun k hk => ?_, fun j hj => ?_⟩
    · rw [setsTo_at hp _ _ _ (Nat.le_refl _) hk, hv k hk]; exact isEl_ofG _
    · have e := psum_diff (c := setsTo l ps (fun k => xorI (mx (l.getD (PS ps k) 0) 0) (ys.getD k 0)) ps.length) hp (setsTo_length _ _ _ _) hag (j + 1)
      rw [← hs j hj] at e
      have e2 : gsum ps.length (fun k => (vG (l.getD (PS ps k) 0) + vG ((setsTo l ps (fun k => xorI (mx (l.getD (PS ps k) 0) 0) (ys.getD k 0)) ps.length).getD (PS ps k) 0)) * GF.pw (XP l.length ps k) (j + 1)) = gsum ps.length (fun k => toG (ys.getD k 0) * GF.pw (XP l.length ps k) (j + 1)) := by
        refine gsum_congr fun k hk => ?_
        rw [setsTo_at hp _ _ _ (Nat.le_refl _) hk, hv k hk, vG_ofG, ← GF.add_assoc, GF.add_self, GF.zero_add]
      rw [e2] at e
      have := congrArg (fun q => gsum ps.length (fun k => toG (ys.getD k 0) * GF.pw (XP l.length ps k) (j + 1)) + q) e
      simp only [GF.add_self] at this
      rwa [← GF.add_assoc, GF.add_self, GF.zero_add] at this
  · rw [if_neg h2]; exact .inl rfl
theorem FillOf.zero (hp : placesD l.length ps) : FillOf (zeroTo l ps ps.length) ps c ↔ FillOf l ps c := by
  have hoff : ∀ i, (∀ k, k < ps.length → PS ps k ≠ i) → (zeroTo l ps ps.length).getD i 0 = l.getD i 0 := fun i hk => by rw [zeroTo_sets]; exact setsTo_off _ _ _ _ _ hk
  refine ⟨fun h => ⟨by rw [h.len, zeroTo_length], fun i hi hk => by rw [h.agree i (by rw [zeroTo_length]; exact hi) hk, hoff i hk], h.els, h.cw⟩, fun h => ⟨by rw [h.len, zeroTo_length], fun i hi hk => by rw [zeroTo_length] at hi; rw [h.agree i hi hk, hoff i hk], h.els, h.cw⟩⟩
theorem code_parts (h : isCode c = true) : isWord c 0 = true ∧ ∀ j, j < 6 → psum c (j + 1) c.length = 0 := by
  unfold isCode at h
  simp only [Bool.and_eq_true, List.all_eq_true, decide_eq_true_eq] at h
  exact ⟨h.1, fun j hj => h.2 j (List.mem_range.2 hj)⟩
theorem code_of (h1 : isWord c 0 = true) (h2 : ∀ j, j < 6 → psum c (j + 1) c.length = 0) : isCode c = true := by
  unfold isCode
  simp only [Bool.and_eq_true, List.all_eq_true, decide_eq_true_eq]
  exact ⟨h1, fun j hj => h2 j (List.mem_range.1 hj)⟩
theorem fillS_found (hn : l.length ≤ 15) (hp : placesD l.length ps) (h : FillOf l ps c) : fillS l ps = (c, isCode c) := by
  have h6 := hp.1.1
  have hz := (FillOf.zero hp).2 h
  have hzl := zeroTo_length l ps ps.length
  have hp' : placesD (zeroTo l ps ps.length).length ps := by rw [hzl]; exact hp
  have hn' : (zeroTo l ps ps.length).length ≤ 15 := by rw [hzl]; exact hn
  obtain ⟨M', hg, a1, a3, a4, hs⟩ := gj_some (el_fill (zeroTo l ps ps.length) ps h6) (indep_fill hn' hp')
  have hM := (hs _).1 (hz.sol hn' hp')
  unfold fillS
  rw [hg]
  have e : tailTo ps M' ps.length (zeroTo l ps ps.length) = c := by
    rw [tailTo_sets]
    apply List.ext_getElem (by rw [setsTo_length, hzl, h.len])
    intro i h1 h3
    have e : (setsTo (zeroTo l ps ps.length) ps (fun k => M' k ps.length) ps.length).getD i 0 = c.getD i 0 := by
      by_cases hk : ∃ k, k < ps.length ∧ PS ps k = i
      · obtain ⟨k, hk, rfl⟩ := hk
        rw [setsTo_at hp' _ _ _ (Nat.le_refl _) hk, gj_at (M := matOf (matFill (zeroTo l ps ps.length) ps 6)) a1 hM k hk a4]
        rw [zeroTo_sets, setsTo_at hp _ _ _ (Nat.le_refl _) hk, show vG 0 = 0 from rfl, GF.zero_add, ofG_vG (h.els k hk)]
      · have hk' : ∀ k, k < ps.length → PS ps k ≠ i := fun k hk1 e => hk ⟨k, hk1, e⟩
        rw [setsTo_off _ _ _ _ _ hk', hz.agree i (by rw [setsTo_length] at h1; exact h1) hk']
    rwa [List.getD_eq_getElem?_getD, List.getD_eq_getElem?_getD, List.getElem?_eq_getElem h1, List.getElem?_eq_getElem h3] at e
  simp only [e]
theorem fillS_ok (hn : l.length ≤ 15) (hp : placesD l.length ps) (h : (fillS l ps).2 = true) : FillOf l ps (fillS l ps).1 ∧ isCode (fillS l ps).1 = true := by
  have h6 := hp.1.1
  have hzl := zeroTo_length l ps ps.length
  have hp' : placesD (zeroTo l ps ps.length).length ps := by rw [hzl]; exact hp
  unfold fillS at h ⊢
  cases hg : gjI 6 (matOf (matFill (zeroTo l ps ps.length) ps 6)) ps.length with
  | none => rw [hg] at h; cases h
  | some M' =>
    rw [hg] at h
    simp only at h ⊢
    refine ⟨(FillOf.zero hp).1 ?_, h⟩
    obtain ⟨c1, c2⟩ := code_parts h
    obtain ⟨e1, e2, e3⟩ := word_el c1
    refine ⟨by rw [tailTo_length], fun i hi hk => by rw [tailTo_sets]; exact setsTo_off _ _ _ _ _ hk, fun k hk => allEl_at e1 _ (by rw [tailTo_length]; exact hp'.lt hk), c2⟩
end
end Go.Proofs.Ytpkhgapifnjbeaa.G
end
section
namespace Go.Proofs.Ytpkhgapifnjbeaa.E
open Go.RowKit Go.Proofs.Ytpkhgapifnjbeaa.G Go.Proofs.Ytpkhgapifnjbeaa.Rs Go.Proofs.YtpkhgapifnjbeaaW.PrintWords Go.Proofs.YtpkhgapifnjbeaaW.PrintLast Go.Proofs.YtpkhgapifnjbeaaW.PrintMore
attribute [local go_sem] max2_int min2_int max_two min_two max_three min_three max_four min_four
set_option linter.unusedVariables false
set_option linter.unusedSimpArgs false
def errW : Option Int → Value
  | none => .nilIface
  | some c => .iface 0 (.int .i64 c)
theorem errW_none : errW none = .nilIface := rfl
theorem errW_some (c : Int) : errW (some c) = .iface 0 (.int .i64 c) := rfl
theorem info3 : (Try.prog.info? 3).map (fun i => (i.zero, i.size, i.bytes)) = some (some (.int .i64 0), 1, 8) := by kernel_rfl
def rd_L1 (xs : List (List Int)) (i : Int) : (List Int) := xs.getD i.toNat ([] : List Int)
theorem at_L1 {w : World} {A : Option Addr} {n : Nat} {xs : List (List Int)} (h : Kd.C (Kd.slice 3 (Kd.int .i64)) w A n xs) (i : Int) (h0 : 0 ≤ i) (h1 : i < n) : ∃ ad A0 c0, A = some ad ∧ w.cell? (ad.add i.toNat) = some (.slice A0 (rd_L1 xs i).length c0) ∧ (rd_L1 xs i).length ≤ c0 ∧ (Kd.int .i64).C w A0 (rd_L1 xs i).length (rd_L1 xs i) := by
  obtain ⟨ad, c, e, _, hK, hc0⟩ := Kd.C_get h ([] : List Int) i h0 h1
  have hc : ∀ j u, c[j]? = some u → w.cell? (ad.add (i.toNat * 1 + j)) = some u := hc0
  obtain ⟨A0, c0, rfl, l0, g0⟩ := hK
  exact ⟨ad, A0, c0, e, by have hq := hc 0 _ rfl; rwa [Nat.mul_one, Nat.add_zero] at hq, l0, g0⟩
def rd_L3 (xs : List (List Int)) (i : Int) : (List Int) := xs.getD i.toNat ([] : List Int)
theorem at_L3 {w : World} {A : Option Addr} {n : Nat} {xs : List (List Int)} (h : Kd.C (Kd.slice 58 (Kd.int .i64)) w A n xs) (i : Int) (h0 : 0 ≤ i) (h1 : i < n) : ∃ ad A0 c0, A = some ad ∧ w.cell? (ad.add i.toNat) = some (.slice A0 (rd_L3 xs i).length c0) ∧ (rd_L3 xs i).length ≤ c0 ∧ (Kd.int .i64).C w A0 (rd_L3 xs i).length (rd_L3 xs i) := by
  obtain ⟨ad, c, e, _, hK, hc0⟩ := Kd.C_get h ([] : List Int) i h0 h1
  have hc : ∀ j u, c[j]? = some u → w.cell? (ad.add (i.toNat * 1 + j)) = some u := hc0
  obtain ⟨A0, c0, rfl, l0, g0⟩ := hK
  exact ⟨ad, A0, c0, e, by have hq := hc 0 _ rfl; rwa [Nat.mul_one, Nat.add_zero] at hq, l0, g0⟩
def rd_L4 (xs : List (List Int)) (i : Int) : (List Int) := xs.getD i.toNat ([] : List Int)
theorem at_L4 {w : World} {A : Option Addr} {n : Nat} {xs : List (List Int)} (h : Kd.C (Kd.slice 57 (Kd.int .i64)) w A n xs) (i : Int) (h0 : 0 ≤ i) (h1 : i < n) : ∃ ad A0 c0, A = some ad ∧ w.cell? (ad.add i.toNat) = some (.slice A0 (rd_L4 xs i).length c0) ∧ (rd_L4 xs i).length ≤ c0 ∧ (Kd.int .i64).C w A0 (rd_L4 xs i).length (rd_L4 xs i) := by
  obtain ⟨ad, c, e, _, hK, hc0⟩ := Kd.C_get h ([] : List Int) i h0 h1
  have hc : ∀ j u, c[j]? = some u → w.cell? (ad.add (i.toNat * 1 + j)) = some u := hc0
  obtain ⟨A0, c0, rfl, l0, g0⟩ := hK
  exact ⟨ad, A0, c0, e, by have hq := hc 0 _ rfl; rwa [Nat.mul_one, Nat.add_zero] at hq, l0, g0⟩
def rd_L5 (xs : List (List (List Int))) (i : Int) : (List (List Int)) := xs.getD i.toNat ([] : List (List Int))
theorem at_L5 {w : World} {A : Option Addr} {n : Nat} {xs : List (List (List Int))} (h : Kd.C (Kd.slice 69 (Kd.slice 57 (Kd.int .i64))) w A n xs) (i : Int) (h0 : 0 ≤ i) (h1 : i < n) : ∃ ad A0 c0, A = some ad ∧ w.cell? (ad.add i.toNat) = some (.slice A0 (rd_L5 xs i).length c0) ∧ (rd_L5 xs i).length ≤ c0 ∧ (Kd.slice 57 (Kd.int .i64)).C w A0 (rd_L5 xs i).length (rd_L5 xs i) := by
  obtain ⟨ad, c, e, _, hK, hc0⟩ := Kd.C_get h ([] : List (List Int)) i h0 h1
  have hc : ∀ j u, c[j]? = some u → w.cell? (ad.add (i.toNat * 1 + j)) = some u := hc0
  obtain ⟨A0, c0, rfl, l0, g0⟩ := hK
  exact ⟨ad, A0, c0, e, by have hq := hc 0 _ rfl; rwa [Nat.mul_one, Nat.add_zero] at hq, l0, g0⟩
end Go.Proofs.Ytpkhgapifnjbeaa.E
end
section
namespace Go.Proofs.Ytpkhgapifnjbeaa.E
open Go.RowKit Go.Proofs.Ytpkhgapifnjbeaa.G Go.Proofs.Ytpkhgapifnjbeaa.Rs Go.Proofs.YtpkhgapifnjbeaaW.PrintWords Go.Proofs.YtpkhgapifnjbeaaW.PrintLast Go.Proofs.YtpkhgapifnjbeaaW.PrintMore
attribute [local go_sem] max2_int min2_int max_two min_two max_three min_three max_four min_four
set_option linter.unusedVariables false
set_option linter.unusedSimpArgs false
def slices_Index_int_int.l0 : Nat → List Int → Int → Int → Int → Option (Int)
  | 0, _, _, _, _ => none
  | k + 1, x0, x1, x7, x8 => if x8 < x7 then (if 0 ≤ x8 then (if x8 < (x0.length : Int) then (if x1 = (rd x0 x8) then (some x8) else (slices_Index_int_int.l0 k x0 x1 x7 (wrap64 (x8 + 1)))) else (none)) else (none)) else (some (-1))
def slices_Index_int_int.f (k : Nat) (l0 : List Int) (a1 : Int) : Option (Int) := slices_Index_int_int.l0 k l0 a1 (l0.length : Int) 0
theorem slices_Index_int_int.mono_l : ∀ k, (∀ y0 y1 y2 y3, LeO (slices_Index_int_int.l0 k y0 y1 y2 y3) (slices_Index_int_int.l0 (k + 1) y0 y1 y2 y3))
  | 0 => fun _ _ _ _ r h => by simp [slices_Index_int_int.l0] at h
  | k + 1 => by
    have ih0 := slices_Index_int_int.mono_l k
    · intro y0 y1 y2 y3
      unfold slices_Index_int_int.l0
      repeat' first
      | (with_reducible exact ih0 _ _ _ _)
      | (with_reducible exact LeO.refl _)
      | (with_reducible exact LeO.none _)
      | (with_reducible refine LeO.ite ?_ ?_)
      | (with_reducible refine LeO.bind ?_ (fun _ => ?_))
      | exact ih0 _ _ _ _
      | exact LeO.none _
      | refine LeO.ite ?_ ?_
      | refine LeO.bind ?_ (fun _ => ?_)
theorem slices_Index_int_int.mono : ∀ a0 a1 k, LeO (slices_Index_int_int.f k a0 a1) (slices_Index_int_int.f (k + 1) a0 a1) := by
  intro a0 a1 k
  have ih0 := slices_Index_int_int.mono_l k
  unfold slices_Index_int_int.f
  repeat' first
      | (with_reducible exact ih0 _ _ _ _)
      | (with_reducible exact LeO.refl _)
      | (with_reducible exact LeO.none _)
      | (with_reducible refine LeO.ite ?_ ?_)
      | (with_reducible refine LeO.bind ?_ (fun _ => ?_))
      | exact ih0 _ _ _ _
      | exact LeO.none _
      | refine LeO.ite ?_ ?_
      | refine LeO.bind ?_ (fun _ => ?_)
set_option maxHeartbeats 8000000 in
set_option maxRecDepth 100000 in
theorem slices_Index_int_int.calls (k : Nat) (A0 : Option Addr) (c0 : Nat) (l0 : List Int) (a1 : Int) (r : Int) (w : World) (hr0 : Kd.C (Kd.int .i64) w A0 l0.length l0) (hc0 : l0.length ≤ c0) (h : slices_Index_int_int.f k l0 a1 = some r) :
    Calls Try.prog 61 #[.slice A0 l0.length c0, .int .i64 a1] w fun e w' => e = .returned (.int .i64 r) ∧ Drawn0 w w' := by
  have HR0 := Aside0.mk hr0
  have HC0 := Aside0.mk hc0
  clear hr0 hc0
  have H : (slices_Index_int_int.l0 k l0 a1 (l0.length : Int) 0) = some r := h
  clear h
  have H' := Aside0.mk H
  clear H
  go_enter Try.func61, Try.ntmps61
  go_wp2
  go_loopg [8] k (fun kq v8 w' => ∃ (x8_1 : Int), v8 = .int .i64 x8_1 ∧ Aside0 (slices_Index_int_int.l0 kq l0 a1 (l0.length : Int) x8_1 = some r) ∧ Aside0 (kq ≤ k) ∧ Drawn0 w w')
  case atStart => exact ⟨(0), (by first | rfl | (simp; done) | (simp [*]; done)), H', ⟨Nat.le_refl _⟩, by repeat (first | exact Drawn0.refl _ | apply Drawn0.step)⟩
  case round =>
    clear H'
    try clear p2
    obtain ⟨x8_1, rfl, HA, HK1, ⟨m1, rfl⟩⟩ := hrel
    cases gk with
    | zero => exact absurd HA.out (by simp [slices_Index_int_int.l0])
    | succ k1 =>
      have H := HA.out
      clear HA
      simp only [slices_Index_int_int.l0] at H
      by_cases c3 : x8_1 < (l0.length : Int)
      · rw [if_pos c3] at H
        have c3b0 : decide (x8_1 < (l0.length : Int)) = true := decide_eq_true c3
        clear c3
        by_cases c4 : 0 ≤ x8_1
        · rw [if_pos c4] at H
          have c4b0 : decide (0 ≤ x8_1) = true := decide_eq_true c4
          clear c4
          by_cases c5 : x8_1 < (l0.length : Int)
          · rw [if_pos c5] at H
            have c5b0 : decide (x8_1 < (l0.length : Int)) = true := decide_eq_true c5
            clear c5
            by_cases c6 : a1 = (rd l0 x8_1)
            · rw [if_pos c6] at H
              have c6b0 : (a1 == (rd l0 x8_1)) = true := beq_iff_eq.mpr c6
              have c6b1 : (a1 != (rd l0 x8_1)) = false := bne_eq_false_iff_eq.mpr c6
              clear c6
              obtain rfl := Option.some.inj H
              have p104 : 0 ≤ (x8_1 : Int) := of_decide_eq_true (by first | (with_reducible assumption) | assumption)
              have q104 : x8_1 < (l0.length : Int) := of_decide_eq_true (by first | (with_reducible assumption) | assumption)
              obtain ⟨ad104, e104, hx104_0⟩ := Kd.at_int HR0.out x8_1 p104 q104
              cases e104
              replace p104 := eq_true p104
              replace q104 := eq_true q104
              go_wp2
              go_ret
              exact ⟨by first | rfl | (simp; done) | (simp [*]; done), by repeat (first | exact Drawn0.refl _ | apply Drawn0.step)⟩
            · rw [if_neg c6] at H
              have c6b0 : (a1 == (rd l0 x8_1)) = false := beq_eq_false_iff_ne.mpr c6
              have c6b1 : (a1 != (rd l0 x8_1)) = true := bne_iff_ne.mpr c6
              have H' := Aside0.mk H
              clear H
              have p104 : 0 ≤ (x8_1 : Int) := of_decide_eq_true (by first | (with_reducible assumption) | assumption)
              have q104 : x8_1 < (l0.length : Int) := of_decide_eq_true (by first | (with_reducible assumption) | assumption)
              obtain ⟨ad104, e104, hx104_0⟩ := Kd.at_int HR0.out x8_1 p104 q104
              cases e104
              replace p104 := eq_true p104
              replace q104 := eq_true q104
              go_wp2
              go_roundg k1
              case measure => have := HK1.out; omega
              case rel => exact ⟨(wrap64 (x8_1 + 1)), (by first | rfl | (simp; done) | (simp [*]; done)), H', ⟨by have := HK1.out; omega⟩, by repeat (first | exact Drawn0.refl _ | apply Drawn0.step)⟩
          · rw [if_neg c5] at H
            exact absurd H (by simp)
        · rw [if_neg c4] at H
          exact absurd H (by simp)
      · rw [if_neg c3] at H
        have c3b0 : decide (x8_1 < (l0.length : Int)) = false := decide_eq_false c3
        clear c3
        obtain rfl := Option.some.inj H
        go_wp2
        go_ret
        exact ⟨by first | rfl | (simp; done) | (simp [*]; done), by repeat (first | exact Drawn0.refl _ | apply Drawn0.step)⟩
def slices_Contains_int_int.f (k : Nat) (l0 : List Int) (a1 : Int) : Option (Bool) := (slices_Index_int_int.f k l0 a1).bind fun t105 => (some (decide (t105 ≥ 0)))
theorem slices_Contains_int_int.mono : ∀ a0 a1 k, LeO (slices_Contains_int_int.f k a0 a1) (slices_Contains_int_int.f (k + 1) a0 a1) := by
  intro a0 a1 k
  unfold slices_Contains_int_int.f
  repeat' first
      | (with_reducible exact slices_Index_int_int.mono _ _ _)
      | (with_reducible exact LeO.refl _)
      | (with_reducible exact LeO.none _)
      | (with_reducible refine LeO.ite ?_ ?_)
      | (with_reducible refine LeO.bind ?_ (fun _ => ?_))
      | exact slices_Index_int_int.mono _ _ _
      | exact LeO.none _
      | refine LeO.ite ?_ ?_
      | refine LeO.bind ?_ (fun _ => ?_)
set_option maxHeartbeats 8000000 in
set_option maxRecDepth 100000 in
theorem slices_Contains_int_int.calls (k : Nat) (A0 : Option Addr) (c0 : Nat) (l0 : List Int) (a1 : Int) (r : Bool) (w : World) (hr0 : Kd.C (Kd.int .i64) w A0 l0.length l0) (hc0 : l0.length ≤ c0) (h : slices_Contains_int_int.f k l0 a1 = some r) :
    Calls Try.prog 46 #[.slice A0 l0.length c0, .int .i64 a1] w fun e w' => e = .returned (.bool r) ∧ Drawn0 w w' := by
  have HR0 := Aside0.mk hr0
  have HC0 := Aside0.mk hc0
  clear hr0 hc0
  have H : ((slices_Index_int_int.f k l0 a1).bind fun t105 => (some (decide (t105 ≥ 0)))) = some r := h
  clear h
  replace H := Option.bind_eq_some_iff.mp H
  obtain ⟨t105, A30, H⟩ := H
  replace H : (some (decide (t105 ≥ 0))) = some r := H
  have A3 := Aside0.mk A30
  clear A30
  obtain rfl := Option.some.inj H
  go_enter Try.func46, Try.ntmps46
  go_wp2_with (first | ((with_reducible refine gate_callee (f := 61) rfl ?_); refine goesL_ (some 7) rfl rfl Try.func61 (by kernel_rfl) rfl #[.slice A0 l0.length c0, .int .i64 a1] rfl (by (try simp only [List.map_toArray, List.map_cons, List.map_nil]); first | done | rfl | (simp only [List.length_drop, List.length_take]; rfl)) ?_; (with_reducible refine (slices_Index_int_int.calls k _ _ l0 a1 t105 _ ?side1 ?side2 A3.out).mono ?_); (case side1 => repeat (first | exact HR0.out | (with_reducible refine Kd.C_alloc ?_ _) | (with_reducible refine Kd.C_drewN ?_ _) | (with_reducible refine Kd.C_drew ?_))); (case side2 => exact HC0.out); rintro e w' ⟨rfl, ⟨nd, rfl⟩⟩; refine ⟨_, rfl, ?_⟩))
  go_ret
  exact ⟨by first | rfl | (simp; done) | (simp [*]; done), by repeat (first | exact Drawn0.refl _ | apply Drawn0.step)⟩
mutual
def rscode_Encode.j0 : Nat → List Int → List Int → Bool → Option (List Int × Int)
  | 0, _, _, _ => none
  | k + 1, x0, x4, x18 => if x18 = true then (some (([] : List Int), 2)) else (if 6 ≤ 35184372088832 then ((some (List.replicate 6 0 : List Int)).bind fun y112 => (rscode_Encode.l0 k x0 x4 y112 (y112.length : Int) 0)) else (none))
def rscode_Encode.l0 : Nat → List Int → List Int → List Int → Int → Int → Option (List Int × Int)
  | 0, _, _, _, _, _ => none
  | k + 1, x0, x4, x5, x21, x22 => if x22 < x21 then (if 0 ≤ x22 then (if x22 < (x5.length : Int) then (rscode_Encode.l0 k x0 x4 (x5.set (x22 : Int).toNat (wrap64 ((x0.length : Int) + x22))) x21 (wrap64 (x22 + 1))) else (none)) else (none)) else ((g_fill.f x4 x5).bind fun t116 => (some (t116, 0)))
end
def rscode_Encode.f (k : Nat) (l0 : List Int) : Option (List Int × Int) := (g_pad.f l0).bind fun t107 => ((g_word.f t107 (-1)).bind fun t110 => (if t110 = true then ((slices_Contains_int_int.f k l0 (-1)).bind fun t111 => (rscode_Encode.j0 k l0 t107 t111)) else (rscode_Encode.j0 k l0 t107 true)))
theorem rscode_Encode.mono_l : ∀ k, (∀ y0 y1 y2, LeO (rscode_Encode.j0 k y0 y1 y2) (rscode_Encode.j0 (k + 1) y0 y1 y2)) ∧ (∀ y0 y1 y2 y3 y4, LeO (rscode_Encode.l0 k y0 y1 y2 y3 y4) (rscode_Encode.l0 (k + 1) y0 y1 y2 y3 y4))
  | 0 => ⟨fun _ _ _ r h => by simp [rscode_Encode.j0] at h, fun _ _ _ _ _ r h => by simp [rscode_Encode.l0] at h⟩
  | k + 1 => by
    obtain ⟨ih0, ih1⟩ := rscode_Encode.mono_l k
    refine ⟨?_, ?_⟩
    · intro y0 y1 y2
      unfold rscode_Encode.j0
      repeat' first
      | (with_reducible exact ih0 _ _ _)
      | (with_reducible exact ih1 _ _ _ _ _)
      | (with_reducible exact slices_Contains_int_int.mono _ _ _)
      | (with_reducible exact LeO.refl _)
      | (with_reducible exact LeO.none _)
      | (with_reducible refine LeO.ite ?_ ?_)
      | (with_reducible refine LeO.bind ?_ (fun _ => ?_))
      | exact ih0 _ _ _
      | exact ih1 _ _ _ _ _
      | exact slices_Contains_int_int.mono _ _ _
      | exact LeO.none _
      | refine LeO.ite ?_ ?_
      | refine LeO.bind ?_ (fun _ => ?_)
    · intro y0 y1 y2 y3 y4
      unfold rscode_Encode.l0
      repeat' first
      | (with_reducible exact ih0 _ _ _)
      | (with_reducible exact ih1 _ _ _ _ _)
      | (with_reducible exact slices_Contains_int_int.mono _ _ _)
      | (with_reducible exact LeO.refl _)
      | (with_reducible exact LeO.none _)
      | (with_reducible refine LeO.ite ?_ ?_)
      | (with_reducible refine LeO.bind ?_ (fun _ => ?_))
      | exact ih0 _ _ _
      | exact ih1 _ _ _ _ _
      | exact slices_Contains_int_int.mono _ _ _
      | exact LeO.none _
      | refine LeO.ite ?_ ?_
      | refine LeO.bind ?_ (fun _ => ?_)
theorem rscode_Encode.mono : ∀ a0 k, LeO (rscode_Encode.f k a0) (rscode_Encode.f (k + 1) a0) := by
  intro a0 k
  obtain ⟨ih0, ih1⟩ := rscode_Encode.mono_l k
  unfold rscode_Encode.f
  repeat' first
      | (with_reducible exact ih0 _ _ _)
      | (with_reducible exact ih1 _ _ _ _ _)
      | (with_reducible exact slices_Contains_int_int.mono _ _ _)
      | (with_reducible exact LeO.refl _)
      | (with_reducible exact LeO.none _)
      | (with_reducible refine LeO.ite ?_ ?_)
      | (with_reducible refine LeO.bind ?_ (fun _ => ?_))
      | exact ih0 _ _ _
      | exact ih1 _ _ _ _ _
      | exact slices_Contains_int_int.mono _ _ _
      | exact LeO.none _
      | refine LeO.ite ?_ ?_
      | refine LeO.bind ?_ (fun _ => ?_)
set_option maxHeartbeats 8000000 in
set_option maxRecDepth 100000 in
theorem rscode_Encode.calls (k : Nat) (A0 : Option Addr) (c0 : Nat) (l0 : List Int) (r1 : List Int) (r2 : Int) (w : World) (hr0 : Kd.C (Kd.int .i64) w A0 l0.length l0) (hc0 : l0.length ≤ c0) (h : rscode_Encode.f k l0 = some (r1, r2)) :
    Calls Try.prog 27 #[.slice A0 l0.length c0] w fun e w' => ∃ v0_ : Value, e = .returned (.tuple #[v0_, .int .i64 r2]) ∧ Kd.R (Kd.int .i64) 3 w' w.heap.size (fun _ => True) v0_ r1 ∧ Below w.heap.size w w' := by
  have HR0 := Aside0.mk hr0
  have HC0 := Aside0.mk hc0
  clear hr0 hc0
  have HB := Aside0.mk (Below.refl w.heap.size w)
  have H : ((g_pad.f l0).bind fun t107 => ((g_word.f t107 (-1)).bind fun t110 => (if t110 = true then ((slices_Contains_int_int.f k l0 (-1)).bind fun t111 => (rscode_Encode.j0 k l0 t107 t111)) else (rscode_Encode.j0 k l0 t107 true)))) = some (r1, r2) := h
  clear h
  replace H := Option.bind_eq_some_iff.mp H
  obtain ⟨t107, A20, H⟩ := H
  replace H : ((g_word.f t107 (-1)).bind fun t110 => (if t110 = true then ((slices_Contains_int_int.f k l0 (-1)).bind fun t111 => (rscode_Encode.j0 k l0 t107 t111)) else (rscode_Encode.j0 k l0 t107 true))) = some (r1, r2) := H
  have A2 := Aside0.mk A20
  clear A20
  have HC3 := Aside0.mk H
  clear H
  go_enter Try.func27, Try.ntmps27
  go_upto_region 2 with (first | ((with_reducible refine gate_dst (N := 8) rfl ?_); refine Kd.R_lit (Kd.int .i64) w.heap.size 3 rfl (N := 8) rfl (xs := ([-1] : List Int)) (inner := [.int .i64 (-1)]) (ok := fun _ => True) (okp := fun _ => True) ?hr ?hp (fun _ hk => hk) trivial HB.out (Nat.le_refl _) (by simp) ?_; (case hr => first | (go_simp; done) | (go_simp; rfl)); (case hp => exact (Reps.one (show Kd.M (Kd.int .i64) _ _ _ (-1) [.int .i64 (-1)] from rfl) (Reps.none _ _))); intro v8 w8 ho hb hg_ hnew_; clear hg_ hnew_; clear HB; obtain ⟨g8, co8, eo8, _, _, _⟩ := Kd.R_form ho (by decide); subst eo8; have HOa := Aside0.mk ho; have HB := Aside0.mk hb; clear ho hb) | ((with_reducible refine gate_callee (f := 44) rfl ?_); refine goesL_ (some 9) rfl rfl Try.func44 (by kernel_rfl) rfl #[.slice (some ⟨g8, 0, none⟩) 1 co8, .int .i64 6] rfl (by (try simp only [List.map_toArray, List.map_cons, List.map_nil]); first | done | rfl) ?_; (refine (repeat_walk (some ⟨g8, 0, none⟩) co8 (-1) _ (Kd.R_reads' HOa.out).2.2 (Kd.R_reads' HOa.out).2.1).mono ?_); rintro e w9 ⟨v9, rfl, ho, hb⟩; refine ⟨_, rfl, ?_⟩; obtain ⟨A9, co9, eo9⟩ := Kd.R_slice ho; subst eo9; have HOb := Aside0.mk ho; have n1_ := Aside0.mk (below_step HB.out hb); clear HB; have HB := n1_; clear n1_ ho hb) | ((with_reducible refine gate_dst (N := 10) rfl ?_); refine event_run (v := .slice (some ⟨w9.heap.size, 0, none⟩) 2 2) (w1 := w9.alloc (.cells #[.slice A0 l0.length c0, .slice A9 6 co9] 27)) rfl ?hr ?_; (case hr => first | (go_simp; done) | (go_simp; rfl))) | ((with_reducible refine gate_callee (f := 43) rfl ?_); refine goesL_ (some 11) rfl rfl Try.func43 (by kernel_rfl) rfl #[.slice (some ⟨w9.heap.size, 0, none⟩) 2 2] rfl (by (try simp only [List.map_toArray, List.map_cons, List.map_nil]); first | done | rfl) ?_; (refine (concat_call A0 c0 l0 A9 co9 (List.replicate 6 (-1 : Int)) w9 (Kd.C_below HR0.out HB.out) HC0.out (Kd.R_reads' HOb.out).2.2 (Kd.R_reads' HOb.out).2.1 (by have := (g_pad.some A2.out).2; simp only [List.length_replicate]; omega)).mono ?_); rintro e w10 ⟨v108, rfl, ho0, hb⟩; refine ⟨_, rfl, ?_⟩; have n0_ := Aside0.mk (show Kd.R (Kd.int .i64) 3 w10 w.heap.size (fun _ => True) v108 t107 from by rw [(g_pad.some A2.out).1]; exact Kd.R_lower ho0 (below_size HB.out)); have n1_ := Aside0.mk (below_step HB.out hb); clear HB; have HO109 := n0_; have HB := n1_; clear n0_ n1_ ho0 hb))
  (try simp only [Act.put, List.setIfInBounds_toArray, List.set_cons_zero, List.set_cons_succ])
  go_cut [18] (fun v18 wc => ∃ (kq : Nat) (x18_2 : Bool), v18 = .bool x18_2 ∧ Aside0 (rscode_Encode.j0 kq l0 t107 x18_2 = some (r1, r2)) ∧ Aside0 (kq ≤ k) ∧ Aside0 (Kd.R (Kd.int .i64) 3 wc w.heap.size (fun _ => True) v108 t107) ∧ Aside0 (Below w.heap.size w wc))
  case first =>
    have H := HC3.out
    clear HC3
    replace H := Option.bind_eq_some_iff.mp H
    obtain ⟨t110, A50, H⟩ := H
    replace H : (if t110 = true then ((slices_Contains_int_int.f k l0 (-1)).bind fun t111 => (rscode_Encode.j0 k l0 t107 t111)) else (rscode_Encode.j0 k l0 t107 true)) = some (r1, r2) := H
    have A5 := Aside0.mk A50
    clear A50
    by_cases c6 : t110 = true
    · subst c6
      have H1 : ((slices_Contains_int_int.f k l0 (-1)).bind fun t111 => (rscode_Encode.j0 k l0 t107 t111)) = some (r1, r2) := by rw [if_pos rfl] at H; exact H
      clear H
      have H := H1
      clear H1
      replace H := Option.bind_eq_some_iff.mp H
      obtain ⟨t111, A70, H⟩ := H
      replace H : (rscode_Encode.j0 k l0 t107 t111) = some (r1, r2) := H
      have A7 := Aside0.mk A70
      clear A70
      have H' := Aside0.mk H
      clear H
      obtain ⟨Ao8, co8, eo8⟩ := Kd.R_slice HO109.out
      subst eo8
      go_wp2_with (first | ((with_reducible refine gate_callee (f := 45) rfl ?_); refine goesL_ (some 13) rfl rfl Try.func45 (by kernel_rfl) rfl #[.slice Ao8 t107.length co8, .int .i64 (-1)] rfl (by (try simp only [List.map_toArray, List.map_cons, List.map_nil]); first | done | rfl | (simp only [List.length_drop, List.length_take]; rfl)) ?_; (with_reducible refine (g_word.calls _ _ t107 (-1) true _ ?side1 ?side2 A5.out).mono ?_); (case side1 => repeat (first | exact (Kd.R_reads' HO109.out).2.2 | (with_reducible refine Kd.C_alloc ?_ _) | (with_reducible refine Kd.C_drewN ?_ _) | (with_reducible refine Kd.C_drew ?_))); (case side2 => exact (Kd.R_reads' HO109.out).2.1); rintro e w9 ⟨rfl, hb⟩; refine ⟨_, rfl, ?_⟩; have n0_ := Aside0.mk (Kd.R_below (by (with_reducible repeat (first | apply Kd.R_alloc | apply Kd.R_drewN | apply Kd.R_drew)); exact HO109.out) hb); have n1_ := Aside0.mk (below_step (by repeat (first | (with_reducible first | exact HB.out | apply below_alloc | apply pw_below_drewN | apply below_drew1) | exact HB.out)) hb); clear HO109; clear HB; have HO109 := n0_; have HB := n1_; clear n0_ n1_; (try clear hb); (try clear hb2); (try clear hk); (try clear hi)) | (go_at_call 46; (with_reducible refine (slices_Contains_int_int.calls k _ _ l0 (-1) t111 _ ?side1 ?side2 A7.out).mono ?_); (case side1 => repeat (first | exact (Kd.C_below HR0.out HB.out) | (with_reducible refine Kd.C_alloc ?_ _) | (with_reducible refine Kd.C_drewN ?_ _) | (with_reducible refine Kd.C_drew ?_))); (case side2 => exact HC0.out); rintro e w' ⟨rfl, ⟨nd, rfl⟩⟩))
      go_meet
      case rel => exact ⟨_, (t111), (by first | rfl | (simp; done) | (simp [*]; done)), H', ⟨by first | omega | exact Nat.le_refl _⟩, ⟨by (with_reducible repeat (first | apply Kd.R_alloc | apply Kd.R_drewN | apply Kd.R_drew)); exact HO109.out⟩, ⟨by repeat (first | (with_reducible first | exact HB.out | apply below_alloc | apply pw_below_drewN | apply below_drew1) | exact HB.out)⟩⟩
    · replace c6 := Bool.eq_false_iff.mpr c6
      subst c6
      have H1 : (rscode_Encode.j0 k l0 t107 true) = some (r1, r2) := by rw [if_neg (show ¬ (false = true) by decide)] at H; exact H
      clear H
      have H := H1
      clear H1
      have H' := Aside0.mk H
      clear H
      obtain ⟨Ao10, co10, eo10⟩ := Kd.R_slice HO109.out
      subst eo10
      go_wp2_with (first | ((with_reducible refine gate_callee (f := 45) rfl ?_); refine goesL_ (some 13) rfl rfl Try.func45 (by kernel_rfl) rfl #[.slice Ao10 t107.length co10, .int .i64 (-1)] rfl (by (try simp only [List.map_toArray, List.map_cons, List.map_nil]); first | done | rfl | (simp only [List.length_drop, List.length_take]; rfl)) ?_; (with_reducible refine (g_word.calls _ _ t107 (-1) false _ ?side1 ?side2 A5.out).mono ?_); (case side1 => repeat (first | exact (Kd.R_reads' HO109.out).2.2 | (with_reducible refine Kd.C_alloc ?_ _) | (with_reducible refine Kd.C_drewN ?_ _) | (with_reducible refine Kd.C_drew ?_))); (case side2 => exact (Kd.R_reads' HO109.out).2.1); rintro e w11 ⟨rfl, hb⟩; refine ⟨_, rfl, ?_⟩; have n0_ := Aside0.mk (Kd.R_below (by (with_reducible repeat (first | apply Kd.R_alloc | apply Kd.R_drewN | apply Kd.R_drew)); exact HO109.out) hb); have n1_ := Aside0.mk (below_step (by repeat (first | (with_reducible first | exact HB.out | apply below_alloc | apply pw_below_drewN | apply below_drew1) | exact HB.out)) hb); clear HO109; clear HB; have HO109 := n0_; have HB := n1_; clear n0_ n1_; (try clear hb); (try clear hb2); (try clear hk); (try clear hi)))
      go_meet
      case rel => exact ⟨_, (true), (by first | rfl | (simp; done) | (simp [*]; done)), H', ⟨by first | omega | exact Nat.le_refl _⟩, ⟨by (with_reducible repeat (first | apply Kd.R_alloc | apply Kd.R_drewN | apply Kd.R_drew)); exact HO109.out⟩, ⟨by repeat (first | (with_reducible first | exact HB.out | apply below_alloc | apply pw_below_drewN | apply below_drew1) | exact HB.out)⟩⟩
  case rest =>
    clear HC3
    try clear c2
    try clear p2
    try clear c4
    try clear c6
    obtain ⟨kq, x18_2, rfl, HA, HJ2, HO_4, HB⟩ := hcut
    cases kq with
    | zero => exact absurd HA.out (by simp [rscode_Encode.j0])
    | succ kj2 =>
      have H := HA.out
      clear HA
      simp only [rscode_Encode.j0] at H
      by_cases c12 : x18_2 = true
      · subst c12
        have H1 : (some (([] : List Int), 2)) = some (r1, r2) := by rw [if_pos rfl] at H; exact H
        clear H
        have H := H1
        clear H1
        simp only [Option.some.injEq, Prod.mk.injEq] at H
        obtain ⟨rfl, rfl⟩ := H
        go_wp2
        go_ret2
        exact ⟨_, by first | rfl | (simp [errW_none, errW_some] <;> rfl) | (simp [*, errW_none, errW_some] <;> rfl), by first | exact Kd.R_nil _ _ _ _ _ | exact Kd.N_nil _ _ _ _ _ | exact Kd.V_nil _ _ _ _ _ | exact Kd.Q_nil _ _ _ _ _ | exact Kd.S_nil _ _ _ _ _, by repeat (first | (with_reducible first | exact HB.out | apply below_alloc | apply pw_below_drewN | apply below_drew1) | exact HB.out)⟩
      · replace c12 := Bool.eq_false_iff.mpr c12
        subst c12
        have H1 : (if 6 ≤ 35184372088832 then ((some (List.replicate 6 0 : List Int)).bind fun y112 => (rscode_Encode.l0 kj2 l0 t107 y112 (y112.length : Int) 0)) else (none)) = some (r1, r2) := by rw [if_neg (show ¬ (false = true) by decide)] at H; exact H
        clear H
        have H := H1
        clear H1
        by_cases c13 : 6 ≤ 35184372088832
        · rw [if_pos c13] at H
          have c13b0 := eq_true c13
          have c13b1 : decide (6 ≤ 35184372088832) = true := decide_eq_true c13
          clear c13
          obtain ⟨y112, hy112⟩ : ∃ y_ : List Int, y_ = (List.replicate 6 0) := ⟨_, rfl⟩
          replace H : (rscode_Encode.l0 kj2 l0 t107 y112 (y112.length : Int) 0) = some (r1, r2) := by first | (rw [hy112]; with_reducible exact H) | (have H2_ := (Option.bind_some _ _).symm.trans H; rw [hy112]; with_reducible exact H2_) | (have H2_ := (Option.bind_some _ _).symm.trans H; with_reducible exact H2_) | with_reducible exact H | (rw [hy112]; exact H) | exact H
          have Ny112 := Aside0.mk hy112
          clear hy112
          have H' := Aside0.mk H
          clear H
          go_wp2_with (first | ((with_reducible refine gate_dst (N := 19) rfl ?_); refine Kd.R_make (Kd.int .i64) _ 3 rfl (N := 19) rfl 27 _ _ rfl 6 rfl rfl Try.underlying27 (.int .i64 0) 8 info3 rfl (by decide) (by omega) 0 (ok := fun _ => True) (okp := fun _ => True) rfl (fun _ hk => hk) trivial (by omega) (by omega) (Below.refl _ _) (Nat.le_refl _) ?_; intro v113 w14 ho15 hb hg_ hnew_; clear hg_ hnew_; (first | rw [← Ny112.out] at ho15 | (simp only [Int.reduceToNat] at ho15; rw [← Ny112.out] at ho15)); have n0_ := Aside0.mk (Kd.R_elder' (by (with_reducible repeat (first | apply Kd.R_alloc | apply Kd.R_drewN | apply Kd.R_drew)); exact HO_4.out) (Kd.R_base ho15) hb); have n1_ := Aside0.mk (Kd.R_lower (Kd.R_new' ho15 (Kd.R_lt (by (with_reducible repeat (first | apply Kd.R_alloc | apply Kd.R_drewN | apply Kd.R_drew)); exact HO_4.out))) (below_size (by repeat (first | (with_reducible first | exact HB.out | apply below_alloc | apply pw_below_drewN | apply below_drew1) | exact HB.out)))); have n2_ := Aside0.mk (below_step (by repeat (first | (with_reducible first | exact HB.out | apply below_alloc | apply pw_below_drewN | apply below_drew1) | exact HB.out)) hb); clear HO_4; clear HB; have HO_4 := n0_; have HO114 := n1_; have HB := n2_; clear n0_ n1_ n2_; clear hb ho15; obtain ⟨Ao16, co16, eo16⟩ := Kd.R_slice HO114.out; subst eo16))
          go_loopg [22] kj2 (fun kq v22 w' => ∃ (x5_2 : List Int) (x22_2 : Int), v22 = .int .i64 x22_2 ∧ Aside0 (rscode_Encode.l0 kq l0 t107 x5_2 (y112.length : Int) x22_2 = some (r1, r2)) ∧ Aside0 (kq ≤ kj2) ∧ Aside0 (Kd.R (Kd.int .i64) 3 w' w.heap.size (fun k_ => some k_ ≠ ((.slice Ao16 y112.length co16) : Value).ownBlock) v108 t107) ∧ Aside0 (Kd.R (Kd.int .i64) 3 w' w.heap.size (fun k_ => some k_ ≠ (v108 : Value).ownBlock) (.slice Ao16 y112.length co16) x5_2) ∧ Aside0 (Below w.heap.size w w'))
          case atStart => exact ⟨(y112), (0), (by first | rfl | (simp; done) | (simp [*]; done)), H', ⟨Nat.le_refl _⟩, ⟨by (with_reducible repeat (first | apply Kd.R_alloc | apply Kd.R_drewN | apply Kd.R_drew)); exact Kd.R_mono HO_4.out (fun _ hk => hk.2)⟩, ⟨by (with_reducible repeat (first | apply Kd.R_alloc | apply Kd.R_drewN | apply Kd.R_drew)); exact Kd.R_mono HO114.out (fun _ hk => hk.2)⟩, ⟨by repeat (first | (with_reducible first | exact HB.out | apply below_alloc | apply pw_below_drewN | apply below_drew1) | exact HB.out)⟩⟩
          case round =>
            clear H'
            try clear c1
            try clear c2
            try clear p2
            try clear c4
            try clear c6
            try clear c12
            try clear c13
            try clear c13b0
            try clear c13b1
            try clear p2
            obtain ⟨x5_2, x22_2, rfl, HA, HK2, HO_4, HO_5, HB⟩ := hrel
            have hl5_2 := (Kd.R_reads' HO_5.out).1
            rw [hl5_2] at HO_5
            (try simp only [hl5_2])
            (try simp only [hl5_2] at HO_4)
            cases gk with
            | zero => exact absurd HA.out (by simp [rscode_Encode.l0])
            | succ k2 =>
              have H := HA.out
              clear HA
              simp only [rscode_Encode.l0] at H
              by_cases c17 : x22_2 < (y112.length : Int)
              · rw [if_pos c17] at H
                have c17b0 : decide (x22_2 < (y112.length : Int)) = true := decide_eq_true c17
                (try simp only [hl5_2] at c17b0)
                clear c17
                by_cases c18 : 0 ≤ x22_2
                · rw [if_pos c18] at H
                  have c18b0 : decide (0 ≤ x22_2) = true := decide_eq_true c18
                  clear c18
                  by_cases c19 : x22_2 < (x5_2.length : Int)
                  · rw [if_pos c19] at H
                    have c19b0 : decide (x22_2 < (x5_2.length : Int)) = true := decide_eq_true c19
                    clear c19
                    obtain ⟨y115, hy115⟩ : ∃ y_ : List Int, y_ = (x5_2.set (x22_2 : Int).toNat (wrap64 ((l0.length : Int) + x22_2))) := ⟨_, rfl⟩
                    replace H : (rscode_Encode.l0 k2 l0 t107 y115 (y112.length : Int) (wrap64 (x22_2 + 1))) = some (r1, r2) := by first | (rw [hy115]; with_reducible exact H) | (have H2_ := (Option.bind_some _ _).symm.trans H; rw [hy115]; with_reducible exact H2_) | (have H2_ := (Option.bind_some _ _).symm.trans H; with_reducible exact H2_) | with_reducible exact H | (rw [hy115]; exact H) | exact H
                    have Ny115 := Aside0.mk hy115
                    clear hy115
                    have H' := Aside0.mk H
                    clear H
                    have p20 : 0 ≤ (x22_2 : Int) := of_decide_eq_true (by first | (with_reducible assumption) | assumption)
                    have q20 : (x22_2 : Int) < ((x5_2.length : Int) : Int) := of_decide_eq_true (by first | (with_reducible assumption) | assumption)
                    obtain ⟨go20, co20, eo20, gb20, gl20, cl20, HG20⟩ := Kd.R_form HO_5.out (by omega)
                    (first | cases eo20 | (injection eo20 with ea_ en_ ec_; (first | subst ea_ | (injection ea_ with ea_; subst ea_)); subst ec_; clear en_))
                    have GB20 := Aside0.mk gb20
                    have GG20 := Aside0.mk HG20
                    clear gb20 gl20 HG20
                    obtain ⟨hx20_0, hf20_0⟩ := Kd.R_celln 0 HO_5.out (x22_2 : Int) p20 q20
                    replace p20 := eq_true p20
                    replace q20 := eq_true q20
                    have HP21 := Kd.R_putg HO_5.out (x22_2 : Int) (wrap64 ((l0.length : Int) + x22_2))
                    go_wp2_with (first | ((with_reducible refine gate_store (t := 3) (p := 31) rfl ?_); refine store_event (t := 3) (p := 31) (v := ?vo_w22) (w1 := (wr.setCell ⟨go20, (x22_2 : Int).toNat, none⟩ (.int .i64 (wrap64 ((l0.length : Int) + x22_2))))) ?hg ?ho ?hn ?hr ?_; (case ho => rfl); (case hg => rfl); (case hn => rfl); (case hr => first | (go_simp; done) | (go_simp; rfl)); intro w22 hw; have hg : wr.grownBy w22 (some go20) := (by rw [hw]; exact HP21.2); have hp_ : Kd.R (Kd.int .i64) 3 w22 w.heap.size (fun k_ => some k_ ≠ (v108 : Value).ownBlock) (.slice (some ⟨go20, 0, none⟩) x5_2.length co16) y115 := (by rw [hw, Ny115.out]; exact HP21.1); clear HP21; have n0_ := Aside0.mk (Kd.R_after (v := (.slice (some ⟨go20, 0, none⟩) x5_2.length co16)) (v1 := (.slice (some ⟨go20, 0, none⟩) x5_2.length co16)) (ok := (fun _ => True)) (by (with_reducible repeat (first | apply Kd.R_alloc | apply Kd.R_drewN | apply Kd.R_drew)); exact Kd.R_mono HO_4.out (fun _ hk => ⟨trivial, hk⟩)) hg (.inl rfl)); have n1_ := Aside0.mk (hp_); have n2_ := Aside0.mk ((by rw [hw]; exact below_set (HB.out) GB20.out : Below w.heap.size w w22)); clear HO_4; clear HO_5; clear HB; have HO_4 := n0_; have HO_5 := n1_; have HB := n2_; clear n0_ n1_ n2_; clear hg hw hp_))
                    (try simp only [← hl5_2])
                    go_roundg k2
                    case measure => have := HJ2.out; have := HK2.out; omega
                    case rel => exact ⟨(y115), (wrap64 (x22_2 + 1)), (by first | rfl | (simp; done) | (simp [*]; done)), H', ⟨by have := HJ2.out; have := HK2.out; omega⟩, ⟨by (try simp only [hl5_2]); (with_reducible repeat (first | apply Kd.R_alloc | apply Kd.R_drewN | apply Kd.R_drew)); exact Kd.R_mono HO_4.out (fun _ hk => hk.2)⟩, ⟨by (try simp only [hl5_2]); (with_reducible repeat (first | apply Kd.R_alloc | apply Kd.R_drewN | apply Kd.R_drew)); exact HO_5.out⟩, ⟨by repeat (first | (with_reducible first | exact HB.out | apply below_alloc | apply pw_below_drewN | apply below_drew1) | exact HB.out)⟩⟩
                  · rw [if_neg c19] at H
                    exact absurd H (by simp)
                · rw [if_neg c18] at H
                  exact absurd H (by simp)
              · rw [if_neg c17] at H
                have c17b0 : decide (x22_2 < (y112.length : Int)) = false := decide_eq_false c17
                (try simp only [hl5_2] at c17b0)
                clear c17
                replace H := Option.bind_eq_some_iff.mp H
                obtain ⟨t116, A230, H⟩ := H
                replace H : (some (t116, 0)) = some (r1, r2) := H
                have A23 := Aside0.mk A230
                clear A230
                simp only [Option.some.injEq, Prod.mk.injEq] at H
                obtain ⟨rfl, rfl⟩ := H
                obtain ⟨Ao24, co24, eo24⟩ := Kd.R_slice HO_4.out
                subst eo24
                go_wp2_with (first | ((with_reducible refine gate_callee (f := 47) rfl ?_); refine goesL_ (some 35) rfl rfl Try.func47 (by kernel_rfl) rfl #[.slice Ao24 t107.length co24, .slice Ao16 x5_2.length co16] rfl (by (try simp only [List.map_toArray, List.map_cons, List.map_nil]); first | done | rfl | (simp only [List.length_drop, List.length_take]; rfl)) ?_; (with_reducible refine (g_fill.calls _ _ t107 _ _ x5_2 t116 _ ?side1 ?side2 ?side3 ?side4 A23.out).mono ?_); (case side1 => repeat (first | exact (Kd.R_reads' HO_4.out).2.2 | (with_reducible refine Kd.C_alloc ?_ _) | (with_reducible refine Kd.C_drewN ?_ _) | (with_reducible refine Kd.C_drew ?_))); (case side2 => exact (Kd.R_reads' HO_4.out).2.1); (case side3 => repeat (first | exact (Kd.R_reads' HO_5.out).2.2 | (with_reducible refine Kd.C_alloc ?_ _) | (with_reducible refine Kd.C_drewN ?_ _) | (with_reducible refine Kd.C_drew ?_))); (case side4 => exact (Kd.R_reads' HO_5.out).2.1); rintro e w25 ⟨v117, rfl, ho0, hb⟩; refine ⟨_, rfl, ?_⟩; have n0_ := Aside0.mk (Kd.R_elder' (by (with_reducible repeat (first | apply Kd.R_alloc | apply Kd.R_drewN | apply Kd.R_drew)); exact HO_4.out) (Kd.R_base ho0) hb); have n1_ := Aside0.mk (Kd.R_elder' (by (with_reducible repeat (first | apply Kd.R_alloc | apply Kd.R_drewN | apply Kd.R_drew)); exact HO_5.out) (Kd.R_base ho0) hb); have n2_ := Aside0.mk (Kd.R_lower (Kd.R_new' (Kd.R_new' ho0 (Kd.R_lt (by (with_reducible repeat (first | apply Kd.R_alloc | apply Kd.R_drewN | apply Kd.R_drew)); exact HO_4.out))) (Kd.R_lt (by (with_reducible repeat (first | apply Kd.R_alloc | apply Kd.R_drewN | apply Kd.R_drew)); exact HO_5.out))) (below_size (by repeat (first | (with_reducible first | exact HB.out | apply below_alloc | apply pw_below_drewN | apply below_drew1) | exact HB.out)))); have n3_ := Aside0.mk (below_step (by repeat (first | (with_reducible first | exact HB.out | apply below_alloc | apply pw_below_drewN | apply below_drew1) | exact HB.out)) hb); clear HO_4; clear HO_5; clear HB; have HO_4 := n0_; have HO_5 := n1_; have HO118 := n2_; have HB := n3_; clear n0_ n1_ n2_ n3_; (try clear hb); (try clear hb2); (try clear hk); (try clear hi); (try clear ho0)))
                go_ret2
                exact ⟨_, by first | rfl | (simp [errW_none, errW_some] <;> rfl) | (simp [*, errW_none, errW_some] <;> rfl), by (with_reducible repeat (first | apply Kd.R_alloc | apply Kd.R_drewN | apply Kd.R_drew)); exact Kd.R_mono HO118.out (fun _ hk => trivial), by repeat (first | (with_reducible first | exact HB.out | apply below_alloc | apply pw_below_drewN | apply below_drew1) | exact HB.out)⟩
        · rw [if_neg c13] at H
          exact absurd H (by simp)
end Go.Proofs.Ytpkhgapifnjbeaa.E
end
section
namespace Go.Proofs.Ytpkhgapifnjbeaa.E
open Go.RowKit Go.Proofs.Ytpkhgapifnjbeaa.G Go.Proofs.Ytpkhgapifnjbeaa.Rs Go.Proofs.YtpkhgapifnjbeaaW.PrintWords Go.Proofs.YtpkhgapifnjbeaaW.PrintLast Go.Proofs.YtpkhgapifnjbeaaW.PrintMore
attribute [local go_sem] max2_int min2_int max_two min_two max_three min_three max_four min_four
set_option linter.unusedVariables false
set_option linter.unusedSimpArgs false
end Go.Proofs.Ytpkhgapifnjbeaa.E
end
section
namespace Go.Proofs.Ytpkhgapifnjbeaa.U
open Go.RowKit Go.Proofs.Ytpkhgapifnjbeaa.G Go.Proofs.Ytpkhgapifnjbeaa.Rs Go.Proofs.YtpkhgapifnjbeaaW.PrintWords Go.Proofs.YtpkhgapifnjbeaaW.PrintLast Go.Proofs.YtpkhgapifnjbeaaW.PrintMore
attribute [local go_sem] max2_int min2_int max_two min_two max_three min_three max_four min_four
set_option linter.unusedVariables false
set_option linter.unusedSimpArgs false
def errW : Option Int → Value
  | none => .nilIface
  | some c => .iface 0 (.int .i64 c)
theorem errW_none : errW none = .nilIface := rfl
theorem errW_some (c : Int) : errW (some c) = .iface 0 (.int .i64 c) := rfl
theorem info3 : (Try.prog.info? 3).map (fun i => (i.zero, i.size, i.bytes)) = some (some (.int .i64 0), 1, 8) := by kernel_rfl
end Go.Proofs.Ytpkhgapifnjbeaa.U
end
