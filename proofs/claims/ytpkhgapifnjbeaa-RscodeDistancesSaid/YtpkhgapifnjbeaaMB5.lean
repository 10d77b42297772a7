/- A part of the proofs of this seat's statements (texts put together by pack2.py of this claim's repo). -/
import Derived.Test.YtpkhgapifnjbeaaProg
import Derived.Below
import Derived.Deep.Draws
import Derived.Deep.AppendLies
import Derived.Maps.AppendAt
import Derived.OwnWalk
import Derived.Laws.BytesArg
import Derived.Laws.MakeOwn
import Derived.Laws.OwnMore
import Derived.Deep.OwnRows
import Derived.Tactics
import Derived.Lib.ConvBytes
import Derived.Laws.Slices
import Derived.WalkKit
import Derived.KernelRfl
import Derived.RowKit3
import Derived.Deep.LoopGhost
import Derived.Deep.QuietTactic
import Derived.BigQuiet
import Derived.WideLaws
import Derived.Deep.DeepCutAuto
import Derived.Deep.CutBlock
import Derived.Deep.RegionHeld3
import Derived.Laws.Rows
import Derived.Lib.AppendStr
import Derived.ArgAppend
import Derived.Laws.IdiomCopy
import Derived.OrdersHeld
import Derived.Laws.BitsLemmas
import Derived.RowKit
import Derived.WalkSpells
import Derived.Stop.BytesEq
import Derived.Test.YtpkhgapifnjbeaaMB4
section
namespace Go.Proofs.Ytpkhgapifnjbeaa.V
open Go.RowKit Go.Proofs.Ytpkhgapifnjbeaa.G Go.Proofs.Ytpkhgapifnjbeaa.Rs Go.Proofs.YtpkhgapifnjbeaaW.PrintWords Go.Proofs.YtpkhgapifnjbeaaW.PrintLast Go.Proofs.YtpkhgapifnjbeaaW.PrintMore
attribute [local go_sem] dd_ fd_ rd_ sd_ uc_ vc_ ed_ gd_
set_option linter.unusedVariables false
set_option linter.unusedSimpArgs false
def if_.f (a0 : Int) (a1 : Int) : Option (Int × Int) := some (((IntKind.u64.wrap ((IntKind.u64.wrap (a0)) * (IntKind.u64.wrap (a1)))) / 4294967296) % 4294967296, (IntKind.u64.wrap ((IntKind.u64.wrap (a0)) * (IntKind.u64.wrap (a1)))) % 4294967296)
set_option maxHeartbeats 8000000 in
set_option maxRecDepth 100000 in
theorem if_.calls (a0 : Int) (a1 : Int) (r1 : Int) (r2 : Int) (w : World) (h : if_.f a0 a1 = some (r1, r2)) :
  Calls Try.prog 67 #[.int .u32 a0, .int .u32 a1] w fun e w' => e = .returned (.tuple #[.int .u32 r1, .int .u32 r2]) ∧ ra_ w w' := by
 have H : (some (((IntKind.u64.wrap ((IntKind.u64.wrap (a0)) * (IntKind.u64.wrap (a1)))) / 4294967296) % 4294967296, (IntKind.u64.wrap ((IntKind.u64.wrap (a0)) * (IntKind.u64.wrap (a1)))) % 4294967296)) = some (r1, r2) := h
 clear h
 simp only [Option.some.injEq, Prod.mk.injEq] at H
 obtain ⟨rfl, rfl⟩ := H
 go_enter Try.func67, Try.ntmps67
 go_wp2
 go_ret2
 exact ⟨by first | rfl | (simp; done) | (simp [*]; done), by repeat (first | exact ra_.refl _ | apply ra_.step)⟩
def be_.f (a0 : Int) (a1 : Int) : Option (Int × Int) := some (IntKind.u64.wrap ((IntKind.u64.wrap ((IntKind.u64.wrap ((a0 / 4294967296) * (a1 / 4294967296))) + ((IntKind.u64.wrap ((IntKind.u64.wrap ((a0 / 4294967296) * (Go.bits .and .u64 a1 4294967295))) + ((IntKind.u64.wrap ((Go.bits .and .u64 a0 4294967295) * (Go.bits .and .u64 a1 4294967295))) / 4294967296))) / 4294967296))) + ((IntKind.u64.wrap ((Go.bits .and .u64 (IntKind.u64.wrap ((IntKind.u64.wrap ((a0 / 4294967296) * (Go.bits .and .u64 a1 4294967295))) + ((IntKind.u64.wrap ((Go.bits .and .u64 a0 4294967295) * (Go.bits .and .u64 a1 4294967295))) / 4294967296))) 4294967295) + (IntKind.u64.wrap ((Go.bits .and .u64 a0 4294967295) * (a1 / 4294967296))))) / 4294967296)), IntKind.u64.wrap (a0 * a1))
set_option maxHeartbeats 8000000 in
set_option maxRecDepth 100000 in
theorem be_.calls (a0 : Int) (a1 : Int) (r1 : Int) (r2 : Int) (w : World) (h : be_.f a0 a1 = some (r1, r2)) :
  Calls Try.prog 68 #[.int .u64 a0, .int .u64 a1] w fun e w' => e = .returned (.tuple #[.int .u64 r1, .int .u64 r2]) ∧ ra_ w w' := by
 have H : (some (IntKind.u64.wrap ((IntKind.u64.wrap ((IntKind.u64.wrap ((a0 / 4294967296) * (a1 / 4294967296))) + ((IntKind.u64.wrap ((IntKind.u64.wrap ((a0 / 4294967296) * (Go.bits .and .u64 a1 4294967295))) + ((IntKind.u64.wrap ((Go.bits .and .u64 a0 4294967295) * (Go.bits .and .u64 a1 4294967295))) / 4294967296))) / 4294967296))) + ((IntKind.u64.wrap ((Go.bits .and .u64 (IntKind.u64.wrap ((IntKind.u64.wrap ((a0 / 4294967296) * (Go.bits .and .u64 a1 4294967295))) + ((IntKind.u64.wrap ((Go.bits .and .u64 a0 4294967295) * (Go.bits .and .u64 a1 4294967295))) / 4294967296))) 4294967295) + (IntKind.u64.wrap ((Go.bits .and .u64 a0 4294967295) * (a1 / 4294967296))))) / 4294967296)), IntKind.u64.wrap (a0 * a1))) = some (r1, r2) := h
 clear h
 simp only [Option.some.injEq, Prod.mk.injEq] at H
 obtain ⟨rfl, rfl⟩ := H
 go_enter Try.func68, Try.ntmps68
 go_wp2
 go_ret2
 exact ⟨by first | rfl | (simp; done) | (simp [*]; done), by repeat (first | exact ra_.refl _ | apply ra_.step)⟩
def zf_.f (a0 : Int) (a1 : Int) : Option (Int × Int) := (be_.f a0 a1).bind fun bt101 => (some (bt101.1, bt101.2))
set_option maxHeartbeats 8000000 in
set_option maxRecDepth 100000 in
theorem zf_.calls (a0 : Int) (a1 : Int) (r1 : Int) (r2 : Int) (w : World) (h : zf_.f a0 a1 = some (r1, r2)) :
  Calls Try.prog 58 #[.int .u64 a0, .int .u64 a1] w fun e w' => e = .returned (.tuple #[.int .u64 r1, .int .u64 r2]) ∧ ra_ w w' := by
 have H : ((be_.f a0 a1).bind fun bt101 => (some (bt101.1, bt101.2))) = some (r1, r2) := h
 clear h
 replace H := Option.bind_eq_some_iff.mp H
 obtain ⟨⟨t101, t102⟩, A30, H⟩ := H
 replace H : (some (t101, t102)) = some (r1, r2) := H
 have A3 := ba_.mk A30
 clear A30
 simp only [Option.some.injEq, Prod.mk.injEq] at H
 obtain ⟨rfl, rfl⟩ := H
 go_enter Try.func58, Try.ntmps58
 go_wp2_with (first | ((with_reducible refine ua_ (f := 68) rfl ?_); refine hc_ (some 25) rfl rfl Try.func68 (by kernel_rfl) rfl #[.int .u64 a0, .int .u64 a1] rfl (by (try simp only [List.map_toArray, List.map_cons, List.map_nil]); first | done | rfl | (simp only [List.length_drop, List.length_take]; rfl)) ?_; (with_reducible refine (be_.calls a0 a1 t101 t102 _ A3.out).mono ?_); rintro e w' ⟨rfl, ⟨nd, rfl⟩⟩; refine ⟨_, rfl, ?_⟩))
 go_ret2
 exact ⟨by first | rfl | (simp; done) | (simp [*]; done), by repeat (first | exact ra_.refl _ | apply ra_.step)⟩
def mc_.f (a0 : Int) : Option (Bool) := if a0 ≥ 0 then (some (decide (a0 < 32))) else (some false)
set_option maxHeartbeats 8000000 in
set_option maxRecDepth 100000 in
theorem mc_.calls (a0 : Int) (r : Bool) (w : World) (h : mc_.f a0 = some r) :
  Calls Try.prog 40 #[.int .i64 a0] w fun e w' => e = .returned (.bool r) ∧ ra_ w w' := by
 have H : (if a0 ≥ 0 then (some (decide (a0 < 32))) else (some false)) = some r := h
 clear h
 by_cases c2 : a0 ≥ 0
 ·rw [if_pos c2] at H
  have c2b0 : decide (0 ≤ a0) = true := decide_eq_true c2
  clear c2
  obtain rfl := Option.some.inj H
  go_enter Try.func40, Try.ntmps40
  go_wp2
  go_ret
  exact ⟨by first | rfl | (simp; done) | (simp [*]; done), by repeat (first | exact ra_.refl _ | apply ra_.step)⟩
 ·rw [if_neg c2] at H
  have c2b0 : decide (0 ≤ a0) = false := decide_eq_false c2
  clear c2
  obtain rfl := Option.some.inj H
  go_enter Try.func40, Try.ntmps40
  go_wp2
  go_ret
  exact ⟨by first | rfl | (simp; done) | (simp [*]; done), by repeat (first | exact ra_.refl _ | apply ra_.step)⟩
mutual
def ib_.j0 : Nat → List Int → Bool → Option (List Int × Int)
 | 0, _, _ => none
 | k + 1, x0, x17 => if x17 = true then (some (([] : List Int), 2)) else (if 0 ≤ (wrap64 ((x0.length : Int) + 6)) then (if (wrap64 ((x0.length : Int) + 6) : Int).toNat ≤ 35184372088832 then (ib_.l0 k x0 (List.replicate (wrap64 ((x0.length : Int) + 6) : Int).toNat 0) 0) else (none)) else (none))
def ib_.l0 : Nat → List Int → List Int → Int → Option (List Int × Int)
 | 0, _, _, _ => none
 | k + 1, x0, x4, x6 => if x6 < (x0.length : Int) then (if 0 ≤ x6 then ((mc_.f (rd x0 x6)).bind fun t107 => (if t107 = true then (if x6 < (x4.length : Int) then (ib_.l0 k x0 (x4.set (x6 : Int).toNat (rd x0 x6)) (wrap64 (x6 + 1))) else (none)) else (some (([] : List Int), 2)))) else (none)) else (ib_.l1 k x0 x4 ([] : List Int) 0)
def ib_.l1 : Nat → List Int → List Int → List Int → Int → Option (List Int × Int)
 | 0, _, _, _, _ => none
 | k + 1, x0, x4, x5, x7 => if x7 < 6 then (if x5.length < 17592186044416 then (ib_.l1 k x0 x4 (x5 ++ [wrap64 ((x0.length : Int) + x7)]) (wrap64 (x7 + 1))) else (none)) else ((gl_.f x4 x5).bind fun bt113 => (some (bt113.1, 0)))
end
def ib_.f (k : Nat) (l0 : List Int) : Option (List Int × Int) := if (l0.length : Int) < 1 then (ib_.j0 k l0 true) else (ib_.j0 k l0 (decide ((l0.length : Int) > 9)))
theorem ib_.xc_ : ∀ k, (∀ y0 y1, LeO (ib_.j0 k y0 y1) (ib_.j0 (k + 1) y0 y1)) ∧ (∀ y0 y1 y2, LeO (ib_.l0 k y0 y1 y2) (ib_.l0 (k + 1) y0 y1 y2)) ∧ (∀ y0 y1 y2 y3, LeO (ib_.l1 k y0 y1 y2 y3) (ib_.l1 (k + 1) y0 y1 y2 y3))
 | 0 => ⟨fun _ _ r h => by simp [ib_.j0] at h, fun _ _ _ r h => by simp [ib_.l0] at h, fun _ _ _ _ r h => by simp [ib_.l1] at h⟩
 | k + 1 => by
  obtain ⟨ih0, ih1, ih2⟩ := ib_.xc_ k
  refine ⟨?_, ?_, ?_⟩
  ·intro y0 y1
   unfold ib_.j0
   repeat' first
   | (with_reducible exact ih0 _ _)
   | (with_reducible exact ih1 _ _ _)
   | (with_reducible exact ih2 _ _ _ _)
   | (with_reducible exact LeO.refl _)
   | (with_reducible exact LeO.none _)
   | (with_reducible refine LeO.ite ?_ ?_)
   | (with_reducible refine LeO.bind ?_ (fun _ => ?_))
   | exact ih0 _ _
   | exact ih1 _ _ _
   | exact ih2 _ _ _ _
   | exact LeO.none _
   | refine LeO.ite ?_ ?_
   | refine LeO.bind ?_ (fun _ => ?_)
  ·intro y0 y1 y2
   unfold ib_.l0
   repeat' first
   | (with_reducible exact ih0 _ _)
   | (with_reducible exact ih1 _ _ _)
   | (with_reducible exact ih2 _ _ _ _)
   | (with_reducible exact LeO.refl _)
   | (with_reducible exact LeO.none _)
   | (with_reducible refine LeO.ite ?_ ?_)
   | (with_reducible refine LeO.bind ?_ (fun _ => ?_))
   | exact ih0 _ _
   | exact ih1 _ _ _
   | exact ih2 _ _ _ _
   | exact LeO.none _
   | refine LeO.ite ?_ ?_
   | refine LeO.bind ?_ (fun _ => ?_)
  ·intro y0 y1 y2 y3
   unfold ib_.l1
   repeat' first
   | (with_reducible exact ih0 _ _)
   | (with_reducible exact ih1 _ _ _)
   | (with_reducible exact ih2 _ _ _ _)
   | (with_reducible exact LeO.refl _)
   | (with_reducible exact LeO.none _)
   | (with_reducible refine LeO.ite ?_ ?_)
   | (with_reducible refine LeO.bind ?_ (fun _ => ?_))
   | exact ih0 _ _
   | exact ih1 _ _ _
   | exact ih2 _ _ _ _
   | exact LeO.none _
   | refine LeO.ite ?_ ?_
   | refine LeO.bind ?_ (fun _ => ?_)
theorem ib_.mono : ∀ a0 k, LeO (ib_.f k a0) (ib_.f (k + 1) a0) := by
 intro a0 k
 obtain ⟨ih0, ih1, ih2⟩ := ib_.xc_ k
 unfold ib_.f
 repeat' first
   | (with_reducible exact ih0 _ _)
   | (with_reducible exact ih1 _ _ _)
   | (with_reducible exact ih2 _ _ _ _)
   | (with_reducible exact LeO.refl _)
   | (with_reducible exact LeO.none _)
   | (with_reducible refine LeO.ite ?_ ?_)
   | (with_reducible refine LeO.bind ?_ (fun _ => ?_))
   | exact ih0 _ _
   | exact ih1 _ _ _
   | exact ih2 _ _ _ _
   | exact LeO.none _
   | refine LeO.ite ?_ ?_
   | refine LeO.bind ?_ (fun _ => ?_)
set_option maxHeartbeats 8000000 in
set_option maxRecDepth 100000 in
theorem ib_.calls (k : Nat) (A0 : Option Addr) (c0 : Nat) (l0 : List Int) (r1 : List Int) (r2 : Int) (w : World) (hr0 : Kd.C (Kd.int .i64) w A0 l0.length l0) (hc0 : l0.length ≤ c0) (h : ib_.f k l0 = some (r1, r2)) :
  Calls Try.prog 28 #[.slice A0 l0.length c0] w fun e w' => ∃ v0_ : Value, e = .returned (.tuple #[v0_, .int .i64 r2]) ∧ Kd.R (Kd.int .i64) 3 w' w.heap.size (fun _ => True) v0_ r1 ∧ Below w.heap.size w w' := by
 have HR0 := ba_.mk hr0
 have HC0 := ba_.mk hc0
 clear hr0 hc0
 have HB := ba_.mk (Below.refl w.heap.size w)
 have H : (if (l0.length : Int) < 1 then (ib_.j0 k l0 true) else (ib_.j0 k l0 (decide ((l0.length : Int) > 9)))) = some (r1, r2) := h
 clear h
 have HC2 := ba_.mk H
 clear H
 go_enter Try.func28, Try.ntmps28
 go_upto_region 1 with (fail)
 go_cut [17] (fun v17 wc => ∃ (kq : Nat) (x17_1 : Bool), v17 = .bool x17_1 ∧ ba_ (ib_.j0 kq l0 x17_1 = some (r1, r2)) ∧ ba_ (kq ≤ k) ∧ ba_ (Below w.heap.size w wc))
 case first =>
  have H := HC2.out
  clear HC2
  by_cases c3 : (l0.length : Int) < 1
  ·rw [if_pos c3] at H
   have c3b0 : decide ((l0.length : Int) < 1) = true := decide_eq_true c3
   have c3b1 : decide (l0.length < 1) = true := decide_eq_true (by omega)
   clear c3
   (first | rw [c3b0] | (simp only [gc_, lc_]; rw [c3b0]) | skip)
   have H' := ba_.mk H
   clear H
   go_wp2
   go_meet
   case rel => exact ⟨_, (true), (by first | rfl | (simp; done) | (simp [*]; done)), H', ⟨by first | omega | exact Nat.le_refl _⟩, ⟨by repeat (first | (with_reducible first | exact HB.out | apply fa_ | apply ca_ | apply ga_) | exact HB.out)⟩⟩
  ·rw [if_neg c3] at H
   have c3b0 : decide ((l0.length : Int) < 1) = false := decide_eq_false c3
   have c3b1 : decide (l0.length < 1) = false := decide_eq_false (by omega)
   clear c3
   (first | rw [c3b0] | (simp only [gc_, lc_]; rw [c3b0]) | skip)
   have H' := ba_.mk H
   clear H
   go_wp2
   go_meet
   case rel => exact ⟨_, (decide ((l0.length : Int) > 9)), (by first | rfl | (simp; done) | (simp [*]; done)), H', ⟨by first | omega | exact Nat.le_refl _⟩, ⟨by repeat (first | (with_reducible first | exact HB.out | apply fa_ | apply ca_ | apply ga_) | exact HB.out)⟩⟩
 case rest =>
  clear HC2
  try clear c2
  try clear p2
  try clear c3
  try clear c3b0
  try clear c3b1
  obtain ⟨kq, x17_1, rfl, HA, HJ1, HB⟩ := hcut
  cases kq with
  | zero => exact absurd HA.out (by simp [ib_.j0])
  | succ kj1 =>
   have H := HA.out
   clear HA
   simp only [ib_.j0] at H
   by_cases c4 : x17_1 = true
   ·subst c4
    have H1 : (some (([] : List Int), 2)) = some (r1, r2) := by rw [if_pos rfl] at H; exact H
    clear H
    have H := H1
    clear H1
    simp only [Option.some.injEq, Prod.mk.injEq] at H
    obtain ⟨rfl, rfl⟩ := H
    go_wp2
    go_ret2
    exact ⟨_, by first | rfl | (simp [bb_, cb_] <;> rfl) | (simp [*, bb_, cb_] <;> rfl), by first | exact Kd.uf_ _ _ _ _ _ | exact Kd.mh_ _ _ _ _ _ | exact Kd.ph_ _ _ _ _ _ | exact Kd.nh_ _ _ _ _ _ | exact Kd.oh_ _ _ _ _ _, by repeat (first | (with_reducible first | exact HB.out | apply fa_ | apply ca_ | apply ga_) | exact HB.out)⟩
   ·replace c4 := Bool.eq_false_iff.mpr c4
    subst c4
    have H1 : (if 0 ≤ (wrap64 ((l0.length : Int) + 6)) then (if (wrap64 ((l0.length : Int) + 6) : Int).toNat ≤ 35184372088832 then (ib_.l0 kj1 l0 (List.replicate (wrap64 ((l0.length : Int) + 6) : Int).toNat 0) 0) else (none)) else (none)) = some (r1, r2) := by rw [if_neg (show ¬ (false = true) by decide)] at H; exact H
    clear H
    have H := H1
    clear H1
    obtain ⟨ji5, hji5⟩ : ∃ j_ : Int, (wrap64 ((l0.length : Int) + 6)) = j_ := ⟨_, rfl⟩
    replace H : (if 0 ≤ (ji5) then (if (ji5 : Int).toNat ≤ 35184372088832 then (ib_.l0 kj1 l0 (List.replicate (ji5 : Int).toNat 0) 0) else (none)) else (none)) = some (r1, r2) := by first | (rw [hji5] at H; exact H) | (simp only [hji5] at H ⊢; exact H)
    have hji5w : (IntKind.i64.wrap ((l0.length : Int) + 6)) = ji5 := (gc_ _).trans hji5
    by_cases c6 : 0 ≤ (ji5)
    ·rw [if_pos c6] at H
     have c6b0 := eq_true c6
     have c6b1 : decide (0 ≤ (ji5)) = true := decide_eq_true c6
     clear c6
     by_cases c7 : (ji5 : Int).toNat ≤ 35184372088832
     ·rw [if_pos c7] at H
      have c7b0 := eq_true c7
      have c7b1 : decide ((ji5 : Int).toNat ≤ 35184372088832) = true := decide_eq_true c7
      clear c7
      obtain ⟨y103, hy103⟩ : ∃ y_ : List Int, y_ = (List.replicate (ji5 : Int).toNat 0) := ⟨_, rfl⟩
      replace H : (ib_.l0 kj1 l0 y103 0) = some (r1, r2) := by first | (rw [hy103]; with_reducible exact H) | (have H2_ := (Option.bind_some _ _).symm.trans H; rw [hy103]; with_reducible exact H2_) | (have H2_ := (Option.bind_some _ _).symm.trans H; with_reducible exact H2_) | with_reducible exact H | (rw [hy103]; exact H) | exact H
      have Ny103 := ba_.mk hy103
      clear hy103
      have H' := ba_.mk H
      clear H
      go_wp2_with (first | ((with_reducible refine yd_ (N := 21) rfl ?_); (try (refine ce_ (by rfl) ?_; dsimp only)); refine Kd.uq_ (Kd.int .i64) _ 3 rfl (N := 21) rfl 27 _ _ rfl ji5 rfl rfl Try.underlying27 (.int .i64 0) 8 te_ rfl (by decide) (by omega) 0 (ok := fun _ => True) (okp := fun _ => True) rfl (fun _ hk => hk) trivial (of_decide_eq_true (by first | (with_reducible assumption) | assumption)) (Nat.le_trans (Nat.mul_le_mul_right _ (of_decide_eq_true (by first | (with_reducible assumption) | assumption) : ji5.toNat ≤ 35184372088832)) (by omega)) (Below.refl _ _) (Nat.le_refl _) ?_; intro v104 w8 ho9 hb hg_ hnew_; clear hg_ hnew_; (first | rw [← Ny103.out] at ho9 | (simp only [Int.reduceToNat] at ho9; rw [← Ny103.out] at ho9)); have n0_ := ba_.mk (Kd.wc_ ho9 (eb_ (by repeat (first | (with_reducible first | exact HB.out | apply fa_ | apply ca_ | apply ga_) | exact HB.out)))); have n1_ := ba_.mk (gb_ (by repeat (first | (with_reducible first | exact HB.out | apply fa_ | apply ca_ | apply ga_) | exact HB.out)) hb); clear HB; have HO105 := n0_; have HB := n1_; clear n0_ n1_; clear hb ho9))
      go_loopg [6] kj1 (fun kq v6 w' => ∃ (x4_2 : List Int) (x6_2 : Int), v6 = .int .i64 x6_2 ∧ ba_ (ib_.l0 kq l0 x4_2 x6_2 = some (r1, r2)) ∧ ba_ (kq ≤ kj1) ∧ ba_ (Kd.R (Kd.int .i64) 3 w' w.heap.size (fun _ => True) v104 x4_2) ∧ ba_ (Below w.heap.size w w'))
      case atStart => exact ⟨(y103), (0), (by first | rfl | (simp; done) | (simp [*]; done)), H', ⟨Nat.le_refl _⟩, ⟨by (with_reducible repeat (first | apply Kd.la_ | apply Kd.ka_ | apply Kd.ma_)); exact HO105.out⟩, ⟨by repeat (first | (with_reducible first | exact HB.out | apply fa_ | apply ca_ | apply ga_) | exact HB.out)⟩⟩
      case round =>
       clear H'
       try clear c2
       try clear p2
       try clear c3
       try clear c3b0
       try clear c3b1
       try clear c4
       try clear c6
       try clear c6b0
       try clear c6b1
       try clear p6
       try clear c7
       try clear c7b0
       try clear c7b1
       try clear p2
       obtain ⟨x4_2, x6_2, rfl, HA, HK2, HO_4, HB⟩ := hrel
       cases gk with
       | zero => exact absurd HA.out (by simp [ib_.l0])
       | succ k2 =>
        have H := HA.out
        clear HA
        simp only [ib_.l0] at H
        by_cases c10 : x6_2 < (l0.length : Int)
        ·rw [if_pos c10] at H
         have c10b0 : decide (x6_2 < (l0.length : Int)) = true := decide_eq_true c10
         clear c10
         by_cases c11 : 0 ≤ x6_2
         ·rw [if_pos c11] at H
          have c11b0 : decide (0 ≤ x6_2) = true := decide_eq_true c11
          clear c11
          replace H := Option.bind_eq_some_iff.mp H
          obtain ⟨t107, A120, H⟩ := H
          replace H : (if t107 = true then (if x6_2 < (x4_2.length : Int) then (ib_.l0 k2 l0 (x4_2.set (x6_2 : Int).toNat (rd l0 x6_2)) (wrap64 (x6_2 + 1))) else (none)) else (some (([] : List Int), 2))) = some (r1, r2) := H
          have A12 := ba_.mk A120
          clear A120
          by_cases c13 : t107 = true
          ·subst c13
           have H1 : (if x6_2 < (x4_2.length : Int) then (ib_.l0 k2 l0 (x4_2.set (x6_2 : Int).toNat (rd l0 x6_2)) (wrap64 (x6_2 + 1))) else (none)) = some (r1, r2) := by rw [if_pos rfl] at H; exact H
           clear H
           have H := H1
           clear H1
           by_cases c14 : x6_2 < (x4_2.length : Int)
           ·rw [if_pos c14] at H
            have c14b0 : decide (x6_2 < (x4_2.length : Int)) = true := decide_eq_true c14
            clear c14
            obtain ⟨y109, hy109⟩ : ∃ y_ : List Int, y_ = (x4_2.set (x6_2 : Int).toNat (rd l0 x6_2)) := ⟨_, rfl⟩
            replace H : (ib_.l0 k2 l0 y109 (wrap64 (x6_2 + 1))) = some (r1, r2) := by first | (rw [hy109]; with_reducible exact H) | (have H2_ := (Option.bind_some _ _).symm.trans H; rw [hy109]; with_reducible exact H2_) | (have H2_ := (Option.bind_some _ _).symm.trans H; with_reducible exact H2_) | with_reducible exact H | (rw [hy109]; exact H) | exact H
            have Ny109 := ba_.mk hy109
            clear hy109
            have H' := ba_.mk H
            clear H
            have p106 : 0 ≤ (x6_2 : Int) := of_decide_eq_true (by first | (with_reducible assumption) | assumption)
            have q106 : x6_2 < (l0.length : Int) := of_decide_eq_true (by first | (with_reducible assumption) | assumption)
            obtain ⟨ad106, e106, hx106_0⟩ := Kd.nd_ HR0.out x6_2 p106 q106
            cases e106
            replace hx106_0 := (HB.out.cell (World.block_lt_of_cell? w _ hx106_0)).trans hx106_0
            replace p106 := eq_true p106
            replace q106 := eq_true q106
            go_wp2_with (first | ((with_reducible refine ua_ (f := 40) rfl ?_); refine hc_ (some 32) rfl rfl Try.func40 (by kernel_rfl) rfl #[.int .i64 (rd l0 x6_2)] rfl (by (try simp only [List.map_toArray, List.map_cons, List.map_nil]); first | done | rfl | (simp only [List.length_drop, List.length_take]; rfl)) ?_; (with_reducible refine (mc_.calls (rd l0 x6_2) true _ A12.out).mono ?_); rintro e w' ⟨rfl, ⟨nd, rfl⟩⟩; refine ⟨_, rfl, ?_⟩; (try (rw [vw_ wr]; generalize hq_ : World.drewN wr _ = wr; have n0_ : ba_ (Kd.R (Kd.int .i64) 3 wr w.heap.size (fun _ => True) v104 x4_2) := ⟨by rw [← hq_]; exact (by (with_reducible repeat (first | apply Kd.la_ | apply Kd.ka_ | apply Kd.ma_)); exact HO_4.out)⟩; have n1_ : ba_ (Below w.heap.size w wr) := ⟨by rw [← hq_]; exact (by repeat (first | (with_reducible first | exact HB.out | apply fa_ | apply ca_ | apply ga_) | exact HB.out))⟩; clear HO_4 HB hq_; have HO_4 := n0_; have HB := n1_; clear n0_ n1_)); have p108 : 0 ≤ (x6_2 : Int) := of_decide_eq_true (by first | (with_reducible assumption) | assumption); have q108 : x6_2 < (l0.length : Int) := of_decide_eq_true (by first | (with_reducible assumption) | assumption); obtain ⟨ad108, e108, hx108_0⟩ := Kd.nd_ HR0.out x6_2 p108 q108; obtain rfl : ad106 = ad108 := (by injection e108); replace hx108_0 := (HB.out.cell (World.block_lt_of_cell? w _ hx108_0)).trans hx108_0; replace p108 := eq_true p108; replace q108 := eq_true q108; have p15 : 0 ≤ (x6_2 : Int) := of_decide_eq_true (by first | (with_reducible assumption) | assumption); have q15 : (x6_2 : Int) < ((x4_2.length : Int) : Int) := of_decide_eq_true (by first | (with_reducible assumption) | assumption); obtain ⟨go15, co15, eo15, gb15, gl15, cl15, HG15⟩ := Kd.yg_ HO_4.out (by omega); (first | cases eo15 | (injection eo15 with ea_ en_ ec_; (first | subst ea_ | (injection ea_ with ea_; subst ea_)); subst ec_; clear en_)); have GB15 := ba_.mk gb15; have GG15 := ba_.mk HG15; clear gb15 gl15 HG15; obtain ⟨hx15_0, hf15_0⟩ := Kd.of_ 0 HO_4.out (x6_2 : Int) p15 q15; replace p15 := eq_true p15; replace q15 := eq_true q15; obtain ⟨hy16_, hz16_⟩ := Kd.of_ 0 HO_4.out (x6_2 : Int) (of_decide_eq_true (by first | (with_reducible assumption) | assumption)) (of_decide_eq_true (by first | (with_reducible assumption) | assumption)); have HP16 := Kd.am_ HO_4.out (x6_2 : Int) (rd l0 x6_2)) | ((with_reducible refine ch_ (t := 3) (p := 40) rfl ?_); refine mg_ (t := 3) (p := 40) (v := ?vo_w17) (w1 := (wr.setCell ⟨go15, (x6_2 : Int).toNat, none⟩ (.int .i64 (rd l0 x6_2)))) ?hg ?ho ?hn ?hr ?_; (case ho => rfl); (case hg => rfl); (case hn => rfl); (case hr => first | (go_simp; done) | (go_simp; rfl)); intro w17 hw; have hg : wr.grownBy w17 (some go15) := (by rw [hw]; exact HP16.2); have hp_ : Kd.R (Kd.int .i64) 3 w17 w.heap.size (fun _ => True) (.slice (some ⟨go15, 0, none⟩) x4_2.length co15) y109 := (by rw [hw, Ny109.out]; exact HP16.1); clear HP16; have n0_ := ba_.mk (hp_); have n1_ := ba_.mk ((by rw [hw]; exact qa_ (HB.out) GB15.out : Below w.heap.size w w17)); clear HO_4; clear HB; have HO_4 := n0_; have HB := n1_; clear n0_ n1_; clear hg hw hp_))
            go_roundg k2
            case measure => have := HJ1.out; have := HK2.out; omega
            case rel => exact ⟨(y109), (wrap64 (x6_2 + 1)), (by first | rfl | (simp; done) | (simp [*]; done)), H', ⟨by have := HJ1.out; have := HK2.out; omega⟩, ⟨by (with_reducible repeat (first | apply Kd.la_ | apply Kd.ka_ | apply Kd.ma_)); exact HO_4.out⟩, ⟨by repeat (first | (with_reducible first | exact HB.out | apply fa_ | apply ca_ | apply ga_) | exact HB.out)⟩⟩
           ·rw [if_neg c14] at H
            exact absurd H (by simp)
          ·replace c13 := Bool.eq_false_iff.mpr c13
           subst c13
           have H1 : (some (([] : List Int), 2)) = some (r1, r2) := by rw [if_neg (show ¬ (false = true) by decide)] at H; exact H
           clear H
           have H := H1
           clear H1
           simp only [Option.some.injEq, Prod.mk.injEq] at H
           obtain ⟨rfl, rfl⟩ := H
           have p106 : 0 ≤ (x6_2 : Int) := of_decide_eq_true (by first | (with_reducible assumption) | assumption)
           have q106 : x6_2 < (l0.length : Int) := of_decide_eq_true (by first | (with_reducible assumption) | assumption)
           obtain ⟨ad106, e106, hx106_0⟩ := Kd.nd_ HR0.out x6_2 p106 q106
           cases e106
           replace hx106_0 := (HB.out.cell (World.block_lt_of_cell? w _ hx106_0)).trans hx106_0
           replace p106 := eq_true p106
           replace q106 := eq_true q106
           go_wp2_with (first | ((with_reducible refine ua_ (f := 40) rfl ?_); refine hc_ (some 32) rfl rfl Try.func40 (by kernel_rfl) rfl #[.int .i64 (rd l0 x6_2)] rfl (by (try simp only [List.map_toArray, List.map_cons, List.map_nil]); first | done | rfl | (simp only [List.length_drop, List.length_take]; rfl)) ?_; (with_reducible refine (mc_.calls (rd l0 x6_2) false _ A12.out).mono ?_); rintro e w' ⟨rfl, ⟨nd, rfl⟩⟩; refine ⟨_, rfl, ?_⟩))
           go_ret2
           exact ⟨_, by first | rfl | (simp [bb_, cb_] <;> rfl) | (simp only [← hji5]; first | rfl | (simp [bb_, cb_] <;> rfl)) | (simp [*, bb_, cb_] <;> rfl), by first | exact Kd.uf_ _ _ _ _ _ | exact Kd.mh_ _ _ _ _ _ | exact Kd.ph_ _ _ _ _ _ | exact Kd.nh_ _ _ _ _ _ | exact Kd.oh_ _ _ _ _ _, by repeat (first | (with_reducible first | exact HB.out | apply fa_ | apply ca_ | apply ga_) | exact HB.out)⟩
         ·rw [if_neg c11] at H
          exact absurd H (by simp)
        ·rw [if_neg c10] at H
         have c10b0 : decide (x6_2 < (l0.length : Int)) = false := decide_eq_false c10
         clear c10
         have H' := ba_.mk H
         clear H
         go_wp2
         go_loopg [5, 7] k2 (fun kq v5 v7 w' => ∃ (x5_3 : List Int) (x7_3 : Int), v7 = .int .i64 x7_3 ∧ ba_ (ib_.l1 kq l0 x4_2 x5_3 x7_3 = some (r1, r2)) ∧ ba_ (kq ≤ k2) ∧ ba_ (Kd.R (Kd.int .i64) 3 w' w.heap.size (fun k_ => some k_ ≠ (v5 : Value).ownBlock) v104 x4_2) ∧ ba_ (Kd.R (Kd.int .i64) 3 w' w.heap.size (fun k_ => some k_ ≠ (v104 : Value).ownBlock) v5 x5_3) ∧ ba_ (Below w.heap.size w w'))
         case atStart => exact ⟨(([] : List Int)), (0), (by first | rfl | (simp; done) | (simp [*]; done)), H', ⟨Nat.le_refl _⟩, ⟨by (with_reducible repeat (first | apply Kd.la_ | apply Kd.ka_ | apply Kd.ma_)); exact Kd.bc_ HO_4.out (fun _ hk => (by simp [Value.ownBlock]))⟩, ⟨by first | exact Kd.uf_ _ _ _ _ _ | exact Kd.mh_ _ _ _ _ _ | exact Kd.ph_ _ _ _ _ _ | exact Kd.nh_ _ _ _ _ _ | exact Kd.oh_ _ _ _ _ _⟩, ⟨by repeat (first | (with_reducible first | exact HB.out | apply fa_ | apply ca_ | apply ga_) | exact HB.out)⟩⟩
         case round =>
          clear H'
          try clear c1
          try clear p1
          try clear q1
          try clear hx1
          try clear hf1
          try clear c2
          try clear p2
          try clear c3
          try clear c3b0
          try clear c3b1
          try clear c4
          try clear c6
          try clear c6b0
          try clear c6b1
          try clear p6
          try clear c7
          try clear c7b0
          try clear c7b1
          try clear c10
          try clear c10b0
          try clear p10
          try clear q10
          try clear hx10
          try clear c11
          try clear c11b0
          try clear c13
          try clear c14
          try clear c14b0
          try clear p15
          try clear q15
          try clear hx15
          try clear hf15
          try clear hx106_0
          try clear hx108_0
          try clear hx15_0
          try clear p106
          try clear p108
          try clear p15
          try clear p2
          try clear p6
          try clear q106
          try clear q108
          try clear q15
          obtain ⟨x5_3, x7_3, rfl, HA, HK3, HO_4, HO_5, HB⟩ := hrel
          cases gk with
          | zero => exact absurd HA.out (by simp [ib_.l1])
          | succ k3 =>
           have H := HA.out
           clear HA
           simp only [ib_.l1] at H
           by_cases c18 : x7_3 < 6
           ·rw [if_pos c18] at H
            have c18b0 : decide (x7_3 < 6) = true := decide_eq_true c18
            clear c18
            by_cases c19 : x5_3.length < 17592186044416
            ·rw [if_pos c19] at H
             have LMc19 := ba_.mk c19
             clear c19
             obtain ⟨y110, hy110⟩ : ∃ y_ : List Int, y_ = (x5_3 ++ [wrap64 ((l0.length : Int) + x7_3)]) := ⟨_, rfl⟩
             replace H : (ib_.l1 k3 l0 x4_2 y110 (wrap64 (x7_3 + 1))) = some (r1, r2) := by first | (rw [hy110]; with_reducible exact H) | (have H2_ := (Option.bind_some _ _).symm.trans H; rw [hy110]; with_reducible exact H2_) | (have H2_ := (Option.bind_some _ _).symm.trans H; with_reducible exact H2_) | with_reducible exact H | (rw [hy110]; exact H) | exact H
             have Ny110 := ba_.mk hy110
             clear hy110
             have H' := ba_.mk H
             clear H
             go_wp2_with (first | ((with_reducible refine hd_ (b := .append) (xs := #[.tmp 45, .tmp 50]) rfl ?_); (try (refine ce_ (by rfl) ?_; dsimp only)); at_builtin; refine Kd.qe_ (Kd.int .i64) (w0 := w) w.heap.size rfl (.tmp 45) (.tmp 50) 27 3 (.int .i64 0) 8 rfl Try.underlying27 te_ rfl (by decide) (by omega) u5 x5_3 (wrap64 ((l0.length : Int) + x7_3)) [.int .i64 (wrap64 ((l0.length : Int) + x7_3))] (fun k_ => some k_ ≠ (v104 : Value).ownBlock) (fun _ => False) rfl rfl ?aP (fun _ hk => hk.elim) ?aF ?aO ?aB ?aS ?aL ?_; (case aP => exact rfl); (case aB => exact (by repeat (first | (with_reducible first | exact HB.out | apply fa_ | apply ca_ | apply ga_) | exact HB.out))); (case aF => exact (fun k_ hk => Kd.fresh' (Kd.R_lt (by (with_reducible repeat (first | apply Kd.la_ | apply Kd.ka_ | apply Kd.ma_)); exact HO_4.out)) k_ hk)); (case aO => exact (by (with_reducible repeat (first | apply Kd.la_ | apply Kd.ka_ | apply Kd.ma_)); exact HO_5.out)); (case aS => exact (eb_ (by repeat (first | (with_reducible first | exact HB.out | apply fa_ | apply ca_ | apply ga_) | exact HB.out)))); (case aL => have := LMc19.out; omega); intro v111 w20 ho hb hg hat; rw [← Ny110.out] at ho; have n0_ := ba_.mk (Kd.wd_ (ok := (fun _ => True)) (by (with_reducible repeat (first | apply Kd.la_ | apply Kd.ka_ | apply Kd.ma_)); exact Kd.bc_ HO_4.out (fun _ hk => ⟨trivial, hk⟩)) hg hat); have n1_ := ba_.mk (hb); have n2_ := ba_.mk (ho); clear HO_4; clear HB; clear HO_5; have HO_4 := n0_; have HB := n1_; have HO112 := n2_; clear n0_ n1_ n2_; clear ho hb hg hat))
             go_roundg k3
             case measure => have := HJ1.out; have := HK2.out; have := HK3.out; omega
             case rel => exact ⟨(y110), (wrap64 (x7_3 + 1)), (by first | rfl | (simp; done) | (simp [*]; done)), H', ⟨by have := HJ1.out; have := HK2.out; have := HK3.out; omega⟩, ⟨by (with_reducible repeat (first | apply Kd.la_ | apply Kd.ka_ | apply Kd.ma_)); exact Kd.bc_ HO_4.out (fun _ hk => hk.2)⟩, ⟨by (with_reducible repeat (first | apply Kd.la_ | apply Kd.ka_ | apply Kd.ma_)); exact HO112.out⟩, ⟨by repeat (first | (with_reducible first | exact HB.out | apply fa_ | apply ca_ | apply ga_) | exact HB.out)⟩⟩
            ·rw [if_neg c19] at H
             exact absurd H (by simp)
           ·rw [if_neg c18] at H
            have c18b0 : decide (x7_3 < 6) = false := decide_eq_false c18
            clear c18
            replace H := Option.bind_eq_some_iff.mp H
            obtain ⟨⟨t113, t114⟩, A210, H⟩ := H
            replace H : (some (t113, 0)) = some (r1, r2) := H
            have A21 := ba_.mk A210
            clear A210
            simp only [Option.some.injEq, Prod.mk.injEq] at H
            obtain ⟨rfl, rfl⟩ := H
            obtain ⟨Ao22, co22, eo22⟩ := Kd.fc_ HO_4.out
            subst eo22
            obtain ⟨Ao23, co23, eo23⟩ := Kd.fc_ HO_5.out
            subst eo23
            go_wp2_with (first | ((with_reducible refine ua_ (f := 48) rfl ?_); refine hc_ (some 55) rfl rfl Try.func48 (by kernel_rfl) rfl #[.slice Ao22 x4_2.length co22, .slice Ao23 x5_3.length co23] rfl (by (try simp only [List.map_toArray, List.map_cons, List.map_nil]); first | done | rfl | (simp only [List.length_drop, List.length_take]; rfl)) ?_; (with_reducible refine (gl_.calls _ _ x4_2 _ _ x5_3 t113 t114 _ ?side1 ?side2 ?side3 ?side4 A21.out).mono ?_); (case side1 => repeat (first | exact (Kd.ta_ HO_4.out).2.2 | (with_reducible refine Kd.yb_ ?_ _) | (with_reducible refine Kd.zb_ ?_ _) | (with_reducible refine Kd.jc_ ?_))); (case side2 => exact (Kd.ta_ HO_4.out).2.1); (case side3 => repeat (first | exact (Kd.ta_ HO_5.out).2.2 | (with_reducible refine Kd.yb_ ?_ _) | (with_reducible refine Kd.zb_ ?_ _) | (with_reducible refine Kd.jc_ ?_))); (case side4 => exact (Kd.ta_ HO_5.out).2.1); rintro e w24 ⟨v115, rfl, ho0, hb⟩; refine ⟨_, rfl, ?_⟩; have n0_ := ba_.mk (Kd.wb_ (by (with_reducible repeat (first | apply Kd.la_ | apply Kd.ka_ | apply Kd.ma_)); exact HO_4.out) (Kd.rc_ ho0) hb); have n1_ := ba_.mk (Kd.wb_ (by (with_reducible repeat (first | apply Kd.la_ | apply Kd.ka_ | apply Kd.ma_)); exact HO_5.out) (Kd.rc_ ho0) hb); have n2_ := ba_.mk (Kd.wc_ (Kd.qc_ (Kd.qc_ ho0 (Kd.R_lt (by (with_reducible repeat (first | apply Kd.la_ | apply Kd.ka_ | apply Kd.ma_)); exact HO_4.out))) (Kd.R_lt (by (with_reducible repeat (first | apply Kd.la_ | apply Kd.ka_ | apply Kd.ma_)); exact HO_5.out))) (eb_ (by repeat (first | (with_reducible first | exact HB.out | apply fa_ | apply ca_ | apply ga_) | exact HB.out)))); have n3_ := ba_.mk (gb_ (by repeat (first | (with_reducible first | exact HB.out | apply fa_ | apply ca_ | apply ga_) | exact HB.out)) hb); clear HO_4; clear HO_5; clear HB; have HO_4 := n0_; have HO_5 := n1_; have HO116 := n2_; have HB := n3_; clear n0_ n1_ n2_ n3_; (try clear hb); (try clear hb2); (try clear hk); (try clear hi); (try clear ho0)))
            go_ret2
            exact ⟨_, by first | rfl | (simp [bb_, cb_] <;> rfl) | (simp only [← hji5]; first | rfl | (simp [bb_, cb_] <;> rfl)) | (simp [*, bb_, cb_] <;> rfl), by (with_reducible repeat (first | apply Kd.la_ | apply Kd.ka_ | apply Kd.ma_)); exact Kd.bc_ HO116.out (fun _ hk => trivial), by repeat (first | (with_reducible first | exact HB.out | apply fa_ | apply ca_ | apply ga_) | exact HB.out)⟩
     ·rw [if_neg c7] at H
      exact absurd H (by simp)
    ·rw [if_neg c6] at H
     exact absurd H (by simp)
mutual
def qb_.l0 : Nat → List Int → List Int → Int → Int → Option (List Int × Bool)
 | 0, _, _, _, _ => none
 | k + 1, x0, x1, x2, x12 => if x12 < (x0.length : Int) then (if 0 ≤ x12 then (if (rd x0 x12) < 0 then (qb_.l0 k x0 x1 x2 (wrap64 (x12 + 1))) else (if ([] : List Int).length + x1.length < 17592186044416 then ((some (([] : List Int) ++ x1 : List Int)).bind fun y122 => (if y122.length < 17592186044416 then ((qb_.f k x0 (y122 ++ [x12]) (wrap64 (x2 - 1)) (wrap64 (x12 + 1))).bind fun bt128 => (if bt128.2 = true then (some (bt128.1, true)) else (qb_.l0 k x0 x1 x2 (wrap64 (x12 + 1))))) else (none))) else (none))) else (none)) else (some (([] : List Int), false))
def qb_.f : Nat → List Int → List Int → Int → Int → Option (List Int × Bool)
 | 0, _, _, _, _ => none
 | k + 1, l0, l1, a2, a3 => (gl_.f l0 l1).bind fun bt117 => (if bt117.2 = true then (some (bt117.1, true)) else (if a2 = 0 then (some (([] : List Int), false)) else (qb_.l0 k l0 l1 a2 a3)))
end
theorem qb_.xc_ : ∀ k, (∀ y0 y1 y2 y3, LeO (qb_.f k y0 y1 y2 y3) (qb_.f (k + 1) y0 y1 y2 y3)) ∧ (∀ y0 y1 y2 y3, LeO (qb_.l0 k y0 y1 y2 y3) (qb_.l0 (k + 1) y0 y1 y2 y3))
 | 0 => ⟨fun _ _ _ _ r h => by simp [qb_.f] at h, fun _ _ _ _ r h => by simp [qb_.l0] at h⟩
 | k + 1 => by
  obtain ⟨ih0, ih1⟩ := qb_.xc_ k
  refine ⟨?_, ?_⟩
  ·intro y0 y1 y2 y3
   unfold qb_.f
   repeat' first
   | (with_reducible exact ih0 _ _ _ _)
   | (with_reducible exact ih1 _ _ _ _)
   | (with_reducible exact LeO.refl _)
   | (with_reducible exact LeO.none _)
   | (with_reducible refine LeO.ite ?_ ?_)
   | (with_reducible refine LeO.bind ?_ (fun _ => ?_))
   | exact ih0 _ _ _ _
   | exact ih1 _ _ _ _
   | exact LeO.none _
   | refine LeO.ite ?_ ?_
   | refine LeO.bind ?_ (fun _ => ?_)
  ·intro y0 y1 y2 y3
   unfold qb_.l0
   repeat' first
   | (with_reducible exact ih0 _ _ _ _)
   | (with_reducible exact ih1 _ _ _ _)
   | (with_reducible exact LeO.refl _)
   | (with_reducible exact LeO.none _)
   | (with_reducible refine LeO.ite ?_ ?_)
   | (with_reducible refine LeO.bind ?_ (fun _ => ?_))
   | exact ih0 _ _ _ _
   | exact ih1 _ _ _ _
   | exact LeO.none _
   | refine LeO.ite ?_ ?_
   | refine LeO.bind ?_ (fun _ => ?_)
theorem qb_.mono : ∀ a0 a1 a2 a3 k, LeO (qb_.f k a0 a1 a2 a3) (qb_.f (k + 1) a0 a1 a2 a3) := by
 intro a0 a1 a2 a3 k
 obtain ⟨ih0, ih1⟩ := qb_.xc_ k
 exact ih0 a0 a1 a2 a3
set_option maxHeartbeats 8000000 in
set_option maxRecDepth 100000 in
theorem qb_.calls (k : Nat) : ∀ (A0 : Option Addr) (c0 : Nat) (l0 : List Int) (A1 : Option Addr) (c1 : Nat) (l1 : List Int) (a2 : Int) (a3 : Int) (r1 : List Int) (r2 : Bool) (w : World) (hr0 : Kd.C (Kd.int .i64) w A0 l0.length l0) (hc0 : l0.length ≤ c0) (hr1 : Kd.C (Kd.int .i64) w A1 l1.length l1) (hc1 : l1.length ≤ c1) (h : qb_.f k l0 l1 a2 a3 = some (r1, r2)),
  Calls Try.prog 55 #[.slice A0 l0.length c0, .slice A1 l1.length c1, .int .i64 a2, .int .i64 a3] w fun e w' => ∃ v0_ : Value, e = .returned (.tuple #[v0_, .bool r2]) ∧ Kd.R (Kd.int .i64) 3 w' w.heap.size (fun _ => True) v0_ r1 ∧ Below w.heap.size w w' := by
 induction k using Nat.strongRecOn with
 | _ k ih =>
 intro A0 c0 l0 A1 c1 l1 a2 a3 r1 r2 w hr0 hc0 hr1 hc1 h
 cases k with
 | zero => exact absurd h (by simp [qb_.f])
 | succ k =>
 simp only [qb_.f] at h
 have HR0 := ba_.mk hr0
 have HC0 := ba_.mk hc0
 clear hr0 hc0
 have HR1 := ba_.mk hr1
 have HC1 := ba_.mk hc1
 clear hr1 hc1
 have HB := ba_.mk (Below.refl w.heap.size w)
 have H : ((gl_.f l0 l1).bind fun bt117 => (if bt117.2 = true then (some (bt117.1, true)) else (if a2 = 0 then (some (([] : List Int), false)) else (qb_.l0 k l0 l1 a2 a3)))) = some (r1, r2) := h
 clear h
 replace H := Option.bind_eq_some_iff.mp H
 obtain ⟨⟨t117, t118⟩, A50, H⟩ := H
 replace H : (if t118 = true then (some (t117, true)) else (if a2 = 0 then (some (([] : List Int), false)) else (qb_.l0 k l0 l1 a2 a3))) = some (r1, r2) := H
 have A5 := ba_.mk A50
 clear A50
 by_cases c6 : t118 = true
 ·subst c6
  have H1 : (some (t117, true)) = some (r1, r2) := by rw [if_pos rfl] at H; exact H
  clear H
  have H := H1
  clear H1
  simp only [Option.some.injEq, Prod.mk.injEq] at H
  obtain ⟨rfl, rfl⟩ := H
  go_enter Try.func55, Try.ntmps55
  go_wp2_with (first | ((with_reducible refine ua_ (f := 48) rfl ?_); refine hc_ (some 19) rfl rfl Try.func48 (by kernel_rfl) rfl #[.slice A0 l0.length c0, .slice A1 l1.length c1] rfl (by (try simp only [List.map_toArray, List.map_cons, List.map_nil]); first | done | rfl | (simp only [List.length_drop, List.length_take]; rfl)) ?_; (with_reducible refine (gl_.calls _ _ l0 _ _ l1 t117 true _ ?side1 ?side2 ?side3 ?side4 A5.out).mono ?_); (case side1 => repeat (first | exact HR0.out | (with_reducible refine Kd.yb_ ?_ _) | (with_reducible refine Kd.zb_ ?_ _) | (with_reducible refine Kd.jc_ ?_))); (case side2 => exact HC0.out); (case side3 => repeat (first | exact HR1.out | (with_reducible refine Kd.yb_ ?_ _) | (with_reducible refine Kd.zb_ ?_ _) | (with_reducible refine Kd.jc_ ?_))); (case side4 => exact HC1.out); rintro e w7 ⟨v119, rfl, ho0, hb⟩; refine ⟨_, rfl, ?_⟩; have n0_ := ba_.mk (Kd.wc_ ho0 (eb_ (by repeat (first | (with_reducible first | exact HB.out | apply fa_ | apply ca_ | apply ga_) | exact HB.out)))); have n1_ := ba_.mk (gb_ (by repeat (first | (with_reducible first | exact HB.out | apply fa_ | apply ca_ | apply ga_) | exact HB.out)) hb); clear HB; have HO120 := n0_; have HB := n1_; clear n0_ n1_; (try clear hb); (try clear hb2); (try clear hk); (try clear hi); (try clear ho0)))
  go_ret2
  exact ⟨_, by first | rfl | (simp [bb_, cb_] <;> rfl) | (simp [*, bb_, cb_] <;> rfl), by (with_reducible repeat (first | apply Kd.la_ | apply Kd.ka_ | apply Kd.ma_)); exact HO120.out, by repeat (first | (with_reducible first | exact HB.out | apply fa_ | apply ca_ | apply ga_) | exact HB.out)⟩
 ·replace c6 := Bool.eq_false_iff.mpr c6
  subst c6
  have H1 : (if a2 = 0 then (some (([] : List Int), false)) else (qb_.l0 k l0 l1 a2 a3)) = some (r1, r2) := by rw [if_neg (show ¬ (false = true) by decide)] at H; exact H
  clear H
  have H := H1
  clear H1
  by_cases c8 : a2 = 0
  ·rw [if_pos c8] at H
   have c8b0 : (a2 == 0) = true := beq_iff_eq.mpr c8
   have c8b1 : (a2 != 0) = false := bne_eq_false_iff_eq.mpr c8
   clear c8
   simp only [Option.some.injEq, Prod.mk.injEq] at H
   obtain ⟨rfl, rfl⟩ := H
   go_enter Try.func55, Try.ntmps55
   go_wp2_with (first | ((with_reducible refine ua_ (f := 48) rfl ?_); refine hc_ (some 19) rfl rfl Try.func48 (by kernel_rfl) rfl #[.slice A0 l0.length c0, .slice A1 l1.length c1] rfl (by (try simp only [List.map_toArray, List.map_cons, List.map_nil]); first | done | rfl | (simp only [List.length_drop, List.length_take]; rfl)) ?_; (with_reducible refine (gl_.calls _ _ l0 _ _ l1 t117 false _ ?side1 ?side2 ?side3 ?side4 A5.out).mono ?_); (case side1 => repeat (first | exact HR0.out | (with_reducible refine Kd.yb_ ?_ _) | (with_reducible refine Kd.zb_ ?_ _) | (with_reducible refine Kd.jc_ ?_))); (case side2 => exact HC0.out); (case side3 => repeat (first | exact HR1.out | (with_reducible refine Kd.yb_ ?_ _) | (with_reducible refine Kd.zb_ ?_ _) | (with_reducible refine Kd.jc_ ?_))); (case side4 => exact HC1.out); rintro e w9 ⟨v119, rfl, ho0, hb⟩; refine ⟨_, rfl, ?_⟩; have n0_ := ba_.mk (Kd.wc_ ho0 (eb_ (by repeat (first | (with_reducible first | exact HB.out | apply fa_ | apply ca_ | apply ga_) | exact HB.out)))); have n1_ := ba_.mk (gb_ (by repeat (first | (with_reducible first | exact HB.out | apply fa_ | apply ca_ | apply ga_) | exact HB.out)) hb); clear HB; have HO120 := n0_; have HB := n1_; clear n0_ n1_; (try clear hb); (try clear hb2); (try clear hk); (try clear hi); (try clear ho0)))
   go_ret2
   exact ⟨_, by first | rfl | (simp [bb_, cb_] <;> rfl) | (simp [*, bb_, cb_] <;> rfl), by first | exact Kd.uf_ _ _ _ _ _ | exact Kd.mh_ _ _ _ _ _ | exact Kd.ph_ _ _ _ _ _ | exact Kd.nh_ _ _ _ _ _ | exact Kd.oh_ _ _ _ _ _, by repeat (first | (with_reducible first | exact HB.out | apply fa_ | apply ca_ | apply ga_) | exact HB.out)⟩
  ·rw [if_neg c8] at H
   have c8b0 : (a2 == 0) = false := beq_eq_false_iff_ne.mpr c8
   have c8b1 : (a2 != 0) = true := bne_iff_ne.mpr c8
   have H' := ba_.mk H
   clear H
   go_enter Try.func55, Try.ntmps55
   go_wp2_with (first | ((with_reducible refine ua_ (f := 48) rfl ?_); refine hc_ (some 19) rfl rfl Try.func48 (by kernel_rfl) rfl #[.slice A0 l0.length c0, .slice A1 l1.length c1] rfl (by (try simp only [List.map_toArray, List.map_cons, List.map_nil]); first | done | rfl | (simp only [List.length_drop, List.length_take]; rfl)) ?_; (with_reducible refine (gl_.calls _ _ l0 _ _ l1 t117 false _ ?side1 ?side2 ?side3 ?side4 A5.out).mono ?_); (case side1 => repeat (first | exact HR0.out | (with_reducible refine Kd.yb_ ?_ _) | (with_reducible refine Kd.zb_ ?_ _) | (with_reducible refine Kd.jc_ ?_))); (case side2 => exact HC0.out); (case side3 => repeat (first | exact HR1.out | (with_reducible refine Kd.yb_ ?_ _) | (with_reducible refine Kd.zb_ ?_ _) | (with_reducible refine Kd.jc_ ?_))); (case side4 => exact HC1.out); rintro e w10 ⟨v119, rfl, ho0, hb⟩; refine ⟨_, rfl, ?_⟩; have n0_ := ba_.mk (Kd.wc_ ho0 (eb_ (by repeat (first | (with_reducible first | exact HB.out | apply fa_ | apply ca_ | apply ga_) | exact HB.out)))); have n1_ := ba_.mk (gb_ (by repeat (first | (with_reducible first | exact HB.out | apply fa_ | apply ca_ | apply ga_) | exact HB.out)) hb); clear HB; have HO120 := n0_; have HB := n1_; clear n0_ n1_; (try clear hb); (try clear hb2); (try clear hk); (try clear hi); (try clear ho0)))
   go_loopg [12] k (fun kq v12 w' => ∃ (x12_1 : Int), v12 = .int .i64 x12_1 ∧ ba_ (qb_.l0 kq l0 l1 a2 x12_1 = some (r1, r2)) ∧ ba_ (kq ≤ k) ∧ ba_ (Below w.heap.size w w'))
   case atStart => exact ⟨(a3), (by first | rfl | (simp; done) | (simp [*]; done)), H', ⟨Nat.le_refl _⟩, ⟨by repeat (first | (with_reducible first | exact HB.out | apply fa_ | apply ca_ | apply ga_) | exact HB.out)⟩⟩
   case round =>
    clear H'
    try clear c1
    try clear p2
    try clear c4
    try clear c5
    try clear c6
    try clear c8
    try clear c8b0
    try clear c8b1
    obtain ⟨x12_1, rfl, HA, HK1, HB⟩ := hrel
    cases gk with
    | zero => exact absurd HA.out (by simp [qb_.l0])
    | succ k1 =>
     have H := HA.out
     clear HA
     simp only [qb_.l0] at H
     by_cases c11 : x12_1 < (l0.length : Int)
     ·rw [if_pos c11] at H
      have c11b0 : decide (x12_1 < (l0.length : Int)) = true := decide_eq_true c11
      clear c11
      by_cases c12 : 0 ≤ x12_1
      ·rw [if_pos c12] at H
       have c12b0 : decide (0 ≤ x12_1) = true := decide_eq_true c12
       clear c12
       by_cases c13 : (rd l0 x12_1) < 0
       ·rw [if_pos c13] at H
        have c13b0 : decide ((rd l0 x12_1) < 0) = true := decide_eq_true c13
        clear c13
        have H' := ba_.mk H
        clear H
        have p121 : 0 ≤ (x12_1 : Int) := of_decide_eq_true (by first | (with_reducible assumption) | assumption)
        have q121 : x12_1 < (l0.length : Int) := of_decide_eq_true (by first | (with_reducible assumption) | assumption)
        obtain ⟨ad121, e121, hx121_0⟩ := Kd.nd_ HR0.out x12_1 p121 q121
        cases e121
        replace hx121_0 := (HB.out.cell (World.block_lt_of_cell? w _ hx121_0)).trans hx121_0
        replace p121 := eq_true p121
        replace q121 := eq_true q121
        go_wp2
        go_roundg k1
        case measure => have := HK1.out; omega
        case rel => exact ⟨(wrap64 (x12_1 + 1)), (by first | rfl | (simp; done) | (simp [*]; done)), H', ⟨by have := HK1.out; omega⟩, ⟨by repeat (first | (with_reducible first | exact HB.out | apply fa_ | apply ca_ | apply ga_) | exact HB.out)⟩⟩
       ·rw [if_neg c13] at H
        have c13b0 : decide ((rd l0 x12_1) < 0) = false := decide_eq_false c13
        clear c13
        by_cases c14 : ([] : List Int).length + l1.length < 17592186044416
        ·rw [if_pos c14] at H
         have LMc14 := ba_.mk c14
         clear c14
         obtain ⟨y122, hy122⟩ : ∃ y_ : List Int, y_ = (([] : List Int) ++ l1) := ⟨_, rfl⟩
         replace H : (if y122.length < 17592186044416 then ((qb_.f k1 l0 (y122 ++ [x12_1]) (wrap64 (a2 - 1)) (wrap64 (x12_1 + 1))).bind fun bt128 => (if bt128.2 = true then (some (bt128.1, true)) else (qb_.l0 k1 l0 l1 a2 (wrap64 (x12_1 + 1))))) else (none)) = some (r1, r2) := by first | (rw [hy122]; with_reducible exact H) | (have H2_ := (Option.bind_some _ _).symm.trans H; rw [hy122]; with_reducible exact H2_) | (have H2_ := (Option.bind_some _ _).symm.trans H; with_reducible exact H2_) | with_reducible exact H | (rw [hy122]; exact H) | exact H
         have Ny122 := ba_.mk hy122
         clear hy122
         by_cases c15 : y122.length < 17592186044416
         ·rw [if_pos c15] at H
          have LMc15 := ba_.mk c15
          clear c15
          obtain ⟨y125, hy125⟩ : ∃ y_ : List Int, y_ = (y122 ++ [x12_1]) := ⟨_, rfl⟩
          replace H : ((qb_.f k1 l0 y125 (wrap64 (a2 - 1)) (wrap64 (x12_1 + 1))).bind fun bt128 => (if bt128.2 = true then (some (bt128.1, true)) else (qb_.l0 k1 l0 l1 a2 (wrap64 (x12_1 + 1))))) = some (r1, r2) := by first | (rw [hy125]; with_reducible exact H) | (have H2_ := (Option.bind_some _ _).symm.trans H; rw [hy125]; with_reducible exact H2_) | (have H2_ := (Option.bind_some _ _).symm.trans H; with_reducible exact H2_) | with_reducible exact H | (rw [hy125]; exact H) | exact H
          have Ny125 := ba_.mk hy125
          clear hy125
          replace H := Option.bind_eq_some_iff.mp H
          obtain ⟨⟨t128, t129⟩, A160, H⟩ := H
          replace H : (if t129 = true then (some (t128, true)) else (qb_.l0 k1 l0 l1 a2 (wrap64 (x12_1 + 1)))) = some (r1, r2) := H
          have A16 := ba_.mk A160
          clear A160
          by_cases c17 : t129 = true
          ·subst c17
           have H1 : (some (t128, true)) = some (r1, r2) := by rw [if_pos rfl] at H; exact H
           clear H
           have H := H1
           clear H1
           simp only [Option.some.injEq, Prod.mk.injEq] at H
           obtain ⟨rfl, rfl⟩ := H
           have p121 : 0 ≤ (x12_1 : Int) := of_decide_eq_true (by first | (with_reducible assumption) | assumption)
           have q121 : x12_1 < (l0.length : Int) := of_decide_eq_true (by first | (with_reducible assumption) | assumption)
           obtain ⟨ad121, e121, hx121_0⟩ := Kd.nd_ HR0.out x12_1 p121 q121
           cases e121
           replace hx121_0 := (HB.out.cell (World.block_lt_of_cell? w _ hx121_0)).trans hx121_0
           replace p121 := eq_true p121
           replace q121 := eq_true q121
           go_wp2_with (first | ((with_reducible refine hd_ (b := .append) (xs := #[.tmp 38, .tmp 39]) rfl ?_); at_builtin; refine Kd.af_ (Kd.int .i64) (w0 := w) w.heap.size rfl (.tmp 38) (.tmp 39) 27 3 (.int .i64 0) 8 rfl Try.underlying27 te_ rfl (by decide) (by omega) (.slice none 0 0) ([] : List Int) l1 _ _ _ (fun _ => True) (fun _ => False) rfl rfl ?aO ?aR (fun _ _ h => h) (fun _ h => h.elim) ?aF ?aB ?aS ?aL ?_; (case aR => repeat (first | exact (Kd.ie_ HR1.out HB.out) | (with_reducible refine Kd.yb_ ?_ _) | (with_reducible refine Kd.zb_ ?_ _) | (with_reducible refine Kd.jc_ ?_))); (case aB => exact (by repeat (first | (with_reducible first | exact HB.out | apply fa_ | apply ca_ | apply ga_) | exact HB.out))); (case aF => exact (fun _ _ => trivial)); (case aO => exact ((Kd.uf_ _ _ _ _ (fun _ => True)))); (case aS => exact (eb_ (by repeat (first | (with_reducible first | exact HB.out | apply fa_ | apply ca_ | apply ga_) | exact HB.out)))); (case aL => have := LMc14.out; omega); intro v123 w18 ho hb hg hat; rw [← Ny122.out] at ho; have n0_ := ba_.mk (hb); have n1_ := ba_.mk (ho); clear HB; have HB := n0_; have HO124 := n1_; clear n0_ n1_; clear ho hb hg hat) | ((with_reducible refine hd_ (b := .append) (xs := #[.tmp 41, .tmp 43]) rfl ?_); at_builtin; refine Kd.qe_ (Kd.int .i64) (w0 := w) w.heap.size rfl (.tmp 41) (.tmp 43) 27 3 (.int .i64 0) 8 rfl Try.underlying27 te_ rfl (by decide) (by omega) v123 y122 x12_1 [.int .i64 x12_1] (fun _ => True) (fun _ => False) rfl rfl ?aP (fun _ hk => hk.elim) ?aF ?aO ?aB ?aS ?aL ?_; (case aP => exact rfl); (case aB => exact (by repeat (first | (with_reducible first | exact HB.out | apply fa_ | apply ca_ | apply ga_) | exact HB.out))); (case aF => exact (fun _ _ => trivial)); (case aO => exact (by (with_reducible repeat (first | apply Kd.la_ | apply Kd.ka_ | apply Kd.ma_)); exact HO124.out)); (case aS => exact (eb_ (by repeat (first | (with_reducible first | exact HB.out | apply fa_ | apply ca_ | apply ga_) | exact HB.out)))); (case aL => have := LMc15.out; omega); intro v126 w19 ho hb hg hat; rw [← Ny125.out] at ho; have n0_ := ba_.mk (hb); have n1_ := ba_.mk (ho); clear HB; clear HO124; have HB := n0_; have HO127 := n1_; clear n0_ n1_; clear ho hb hg hat; obtain ⟨Ao20, co20, eo20⟩ := Kd.fc_ HO127.out; subst eo20) | ((with_reducible refine ua_ (f := 55) rfl ?_); refine hc_ (some 52) rfl rfl Try.func55 (by kernel_rfl) rfl #[.slice (some ad121) l0.length c0, .slice Ao20 y125.length co20, .int .i64 (wrap64 (a2 - 1)), .int .i64 (wrap64 (x12_1 + 1))] rfl (by (try simp only [List.map_toArray, List.map_cons, List.map_nil]); first | done | rfl | (simp only [List.length_drop, List.length_take]; rfl)) ?_; (with_reducible refine (ih k1 (by have := HK1.out; omega) _ _ l0 _ _ y125 (wrap64 (a2 - 1)) (wrap64 (x12_1 + 1)) t128 true _ ?side1 ?side2 ?side3 ?side4 A16.out).mono ?_); (case side1 => repeat (first | exact (Kd.ie_ HR0.out HB.out) | (with_reducible refine Kd.yb_ ?_ _) | (with_reducible refine Kd.zb_ ?_ _) | (with_reducible refine Kd.jc_ ?_))); (case side2 => exact HC0.out); (case side3 => repeat (first | exact (Kd.ta_ HO127.out).2.2 | (with_reducible refine Kd.yb_ ?_ _) | (with_reducible refine Kd.zb_ ?_ _) | (with_reducible refine Kd.jc_ ?_))); (case side4 => exact (Kd.ta_ HO127.out).2.1); rintro e w21 ⟨v130, rfl, ho0, hb⟩; refine ⟨_, rfl, ?_⟩; have n0_ := ba_.mk (Kd.wb_ (by (with_reducible repeat (first | apply Kd.la_ | apply Kd.ka_ | apply Kd.ma_)); exact HO127.out) (Kd.rc_ ho0) hb); have n1_ := ba_.mk (Kd.wc_ (Kd.qc_ ho0 (Kd.R_lt (by (with_reducible repeat (first | apply Kd.la_ | apply Kd.ka_ | apply Kd.ma_)); exact HO127.out))) (eb_ (by repeat (first | (with_reducible first | exact HB.out | apply fa_ | apply ca_ | apply ga_) | exact HB.out)))); have n2_ := ba_.mk (gb_ (by repeat (first | (with_reducible first | exact HB.out | apply fa_ | apply ca_ | apply ga_) | exact HB.out)) hb); clear HO127; clear HB; have HO127 := n0_; have HO131 := n1_; have HB := n2_; clear n0_ n1_ n2_; (try clear hb); (try clear hb2); (try clear hk); (try clear hi); (try clear ho0)))
           go_ret2
           exact ⟨_, by first | rfl | (simp [bb_, cb_] <;> rfl) | (simp [*, bb_, cb_] <;> rfl), by (with_reducible repeat (first | apply Kd.la_ | apply Kd.ka_ | apply Kd.ma_)); exact Kd.bc_ HO131.out (fun _ hk => trivial), by repeat (first | (with_reducible first | exact HB.out | apply fa_ | apply ca_ | apply ga_) | exact HB.out)⟩
          ·replace c17 := Bool.eq_false_iff.mpr c17
           subst c17
           have H1 : (qb_.l0 k1 l0 l1 a2 (wrap64 (x12_1 + 1))) = some (r1, r2) := by rw [if_neg (show ¬ (false = true) by decide)] at H; exact H
           clear H
           have H := H1
           clear H1
           have H' := ba_.mk H
           clear H
           have p121 : 0 ≤ (x12_1 : Int) := of_decide_eq_true (by first | (with_reducible assumption) | assumption)
           have q121 : x12_1 < (l0.length : Int) := of_decide_eq_true (by first | (with_reducible assumption) | assumption)
           obtain ⟨ad121, e121, hx121_0⟩ := Kd.nd_ HR0.out x12_1 p121 q121
           cases e121
           replace hx121_0 := (HB.out.cell (World.block_lt_of_cell? w _ hx121_0)).trans hx121_0
           replace p121 := eq_true p121
           replace q121 := eq_true q121
           go_wp2_with (first | ((with_reducible refine hd_ (b := .append) (xs := #[.tmp 38, .tmp 39]) rfl ?_); at_builtin; refine Kd.af_ (Kd.int .i64) (w0 := w) w.heap.size rfl (.tmp 38) (.tmp 39) 27 3 (.int .i64 0) 8 rfl Try.underlying27 te_ rfl (by decide) (by omega) (.slice none 0 0) ([] : List Int) l1 _ _ _ (fun _ => True) (fun _ => False) rfl rfl ?aO ?aR (fun _ _ h => h) (fun _ h => h.elim) ?aF ?aB ?aS ?aL ?_; (case aR => repeat (first | exact (Kd.ie_ HR1.out HB.out) | (with_reducible refine Kd.yb_ ?_ _) | (with_reducible refine Kd.zb_ ?_ _) | (with_reducible refine Kd.jc_ ?_))); (case aB => exact (by repeat (first | (with_reducible first | exact HB.out | apply fa_ | apply ca_ | apply ga_) | exact HB.out))); (case aF => exact (fun _ _ => trivial)); (case aO => exact ((Kd.uf_ _ _ _ _ (fun _ => True)))); (case aS => exact (eb_ (by repeat (first | (with_reducible first | exact HB.out | apply fa_ | apply ca_ | apply ga_) | exact HB.out)))); (case aL => have := LMc14.out; omega); intro v123 w22 ho hb hg hat; rw [← Ny122.out] at ho; have n0_ := ba_.mk (hb); have n1_ := ba_.mk (ho); clear HB; have HB := n0_; have HO124 := n1_; clear n0_ n1_; clear ho hb hg hat) | ((with_reducible refine hd_ (b := .append) (xs := #[.tmp 41, .tmp 43]) rfl ?_); at_builtin; refine Kd.qe_ (Kd.int .i64) (w0 := w) w.heap.size rfl (.tmp 41) (.tmp 43) 27 3 (.int .i64 0) 8 rfl Try.underlying27 te_ rfl (by decide) (by omega) v123 y122 x12_1 [.int .i64 x12_1] (fun _ => True) (fun _ => False) rfl rfl ?aP (fun _ hk => hk.elim) ?aF ?aO ?aB ?aS ?aL ?_; (case aP => exact rfl); (case aB => exact (by repeat (first | (with_reducible first | exact HB.out | apply fa_ | apply ca_ | apply ga_) | exact HB.out))); (case aF => exact (fun _ _ => trivial)); (case aO => exact (by (with_reducible repeat (first | apply Kd.la_ | apply Kd.ka_ | apply Kd.ma_)); exact HO124.out)); (case aS => exact (eb_ (by repeat (first | (with_reducible first | exact HB.out | apply fa_ | apply ca_ | apply ga_) | exact HB.out)))); (case aL => have := LMc15.out; omega); intro v126 w23 ho hb hg hat; rw [← Ny125.out] at ho; have n0_ := ba_.mk (hb); have n1_ := ba_.mk (ho); clear HB; clear HO124; have HB := n0_; have HO127 := n1_; clear n0_ n1_; clear ho hb hg hat; obtain ⟨Ao24, co24, eo24⟩ := Kd.fc_ HO127.out; subst eo24) | ((with_reducible refine ua_ (f := 55) rfl ?_); refine hc_ (some 52) rfl rfl Try.func55 (by kernel_rfl) rfl #[.slice (some ad121) l0.length c0, .slice Ao24 y125.length co24, .int .i64 (wrap64 (a2 - 1)), .int .i64 (wrap64 (x12_1 + 1))] rfl (by (try simp only [List.map_toArray, List.map_cons, List.map_nil]); first | done | rfl | (simp only [List.length_drop, List.length_take]; rfl)) ?_; (with_reducible refine (ih k1 (by have := HK1.out; omega) _ _ l0 _ _ y125 (wrap64 (a2 - 1)) (wrap64 (x12_1 + 1)) t128 false _ ?side1 ?side2 ?side3 ?side4 A16.out).mono ?_); (case side1 => repeat (first | exact (Kd.ie_ HR0.out HB.out) | (with_reducible refine Kd.yb_ ?_ _) | (with_reducible refine Kd.zb_ ?_ _) | (with_reducible refine Kd.jc_ ?_))); (case side2 => exact HC0.out); (case side3 => repeat (first | exact (Kd.ta_ HO127.out).2.2 | (with_reducible refine Kd.yb_ ?_ _) | (with_reducible refine Kd.zb_ ?_ _) | (with_reducible refine Kd.jc_ ?_))); (case side4 => exact (Kd.ta_ HO127.out).2.1); rintro e w25 ⟨v130, rfl, ho0, hb⟩; refine ⟨_, rfl, ?_⟩; have n0_ := ba_.mk (Kd.wb_ (by (with_reducible repeat (first | apply Kd.la_ | apply Kd.ka_ | apply Kd.ma_)); exact HO127.out) (Kd.rc_ ho0) hb); have n1_ := ba_.mk (Kd.wc_ (Kd.qc_ ho0 (Kd.R_lt (by (with_reducible repeat (first | apply Kd.la_ | apply Kd.ka_ | apply Kd.ma_)); exact HO127.out))) (eb_ (by repeat (first | (with_reducible first | exact HB.out | apply fa_ | apply ca_ | apply ga_) | exact HB.out)))); have n2_ := ba_.mk (gb_ (by repeat (first | (with_reducible first | exact HB.out | apply fa_ | apply ca_ | apply ga_) | exact HB.out)) hb); clear HO127; clear HB; have HO127 := n0_; have HO131 := n1_; have HB := n2_; clear n0_ n1_ n2_; (try clear hb); (try clear hb2); (try clear hk); (try clear hi); (try clear ho0)))
           go_roundg k1
           case measure => have := HK1.out; omega
           case rel => exact ⟨(wrap64 (x12_1 + 1)), (by first | rfl | (simp; done) | (simp [*]; done)), H', ⟨by have := HK1.out; omega⟩, ⟨by repeat (first | (with_reducible first | exact HB.out | apply fa_ | apply ca_ | apply ga_) | exact HB.out)⟩⟩
         ·rw [if_neg c15] at H
          exact absurd H (by simp)
        ·rw [if_neg c14] at H
         exact absurd H (by simp)
      ·rw [if_neg c12] at H
       exact absurd H (by simp)
     ·rw [if_neg c11] at H
      have c11b0 : decide (x12_1 < (l0.length : Int)) = false := decide_eq_false c11
      clear c11
      simp only [Option.some.injEq, Prod.mk.injEq] at H
      obtain ⟨rfl, rfl⟩ := H
      go_wp2
      go_ret2
      exact ⟨_, by first | rfl | (simp [bb_, cb_] <;> rfl) | (simp [*, bb_, cb_] <;> rfl), by first | exact Kd.uf_ _ _ _ _ _ | exact Kd.mh_ _ _ _ _ _ | exact Kd.ph_ _ _ _ _ _ | exact Kd.nh_ _ _ _ _ _ | exact Kd.oh_ _ _ _ _ _, by repeat (first | (with_reducible first | exact HB.out | apply fa_ | apply ca_ | apply ga_) | exact HB.out)⟩
def ke_.f (k : Nat) (l0 : List Int) : Option (List Int × Int × Int) := (li_.f l0 (-1)).bind fun t132 => (if t132 = true then ((up_.f l0).bind fun t133 => (if (t133.length : Int) > 6 then (some (([] : List Int), 0, 25)) else ((qb_.f k l0 t133 (wrap64 (Int.tdiv (wrap64 (6 - (t133.length : Int))) 2)) 0).bind fun bt136 => (if bt136.2 = true then ((uk_.f l0 bt136.1).bind fun bt140 => (some (bt140.1, bt140.2, 0))) else (some (([] : List Int), 0, 25)))))) else (some (([] : List Int), 0, 2)))
theorem ke_.mono : ∀ a0 k, LeO (ke_.f k a0) (ke_.f (k + 1) a0) := by
 intro a0 k
 unfold ke_.f
 repeat' first
   | (with_reducible exact qb_.mono _ _ _ _ _)
   | (with_reducible exact LeO.refl _)
   | (with_reducible exact LeO.none _)
   | (with_reducible refine LeO.ite ?_ ?_)
   | (with_reducible refine LeO.bind ?_ (fun _ => ?_))
   | exact qb_.mono _ _ _ _ _
   | exact LeO.none _
   | refine LeO.ite ?_ ?_
   | refine LeO.bind ?_ (fun _ => ?_)
set_option maxHeartbeats 8000000 in
set_option maxRecDepth 100000 in
theorem ke_.calls (k : Nat) (A0 : Option Addr) (c0 : Nat) (l0 : List Int) (r1 : List Int) (r2 : Int) (r3 : Int) (w : World) (hr0 : Kd.C (Kd.int .i64) w A0 l0.length l0) (hc0 : l0.length ≤ c0) (h : ke_.f k l0 = some (r1, r2, r3)) :
  Calls Try.prog 35 #[.slice A0 l0.length c0] w fun e w' => ∃ v0_ : Value, e = .returned (.tuple #[v0_, .int .i64 r2, .int .i64 r3]) ∧ Kd.R (Kd.int .i64) 3 w' w.heap.size (fun _ => True) v0_ r1 ∧ Below w.heap.size w w' := by
 have HR0 := ba_.mk hr0
 have HC0 := ba_.mk hc0
 clear hr0 hc0
 have HB := ba_.mk (Below.refl w.heap.size w)
 have H : ((li_.f l0 (-1)).bind fun t132 => (if t132 = true then ((up_.f l0).bind fun t133 => (if (t133.length : Int) > 6 then (some (([] : List Int), 0, 25)) else ((qb_.f k l0 t133 (wrap64 (Int.tdiv (wrap64 (6 - (t133.length : Int))) 2)) 0).bind fun bt136 => (if bt136.2 = true then ((uk_.f l0 bt136.1).bind fun bt140 => (some (bt140.1, bt140.2, 0))) else (some (([] : List Int), 0, 25)))))) else (some (([] : List Int), 0, 2)))) = some (r1, r2, r3) := h
 clear h
 replace H := Option.bind_eq_some_iff.mp H
 obtain ⟨t132, A20, H⟩ := H
 replace H : (if t132 = true then ((up_.f l0).bind fun t133 => (if (t133.length : Int) > 6 then (some (([] : List Int), 0, 25)) else ((qb_.f k l0 t133 (wrap64 (Int.tdiv (wrap64 (6 - (t133.length : Int))) 2)) 0).bind fun bt136 => (if bt136.2 = true then ((uk_.f l0 bt136.1).bind fun bt140 => (some (bt140.1, bt140.2, 0))) else (some (([] : List Int), 0, 25)))))) else (some (([] : List Int), 0, 2))) = some (r1, r2, r3) := H
 have A2 := ba_.mk A20
 clear A20
 by_cases c3 : t132 = true
 ·subst c3
  have H1 : ((up_.f l0).bind fun t133 => (if (t133.length : Int) > 6 then (some (([] : List Int), 0, 25)) else ((qb_.f k l0 t133 (wrap64 (Int.tdiv (wrap64 (6 - (t133.length : Int))) 2)) 0).bind fun bt136 => (if bt136.2 = true then ((uk_.f l0 bt136.1).bind fun bt140 => (some (bt140.1, bt140.2, 0))) else (some (([] : List Int), 0, 25)))))) = some (r1, r2, r3) := by rw [if_pos rfl] at H; exact H
  clear H
  have H := H1
  clear H1
  replace H := Option.bind_eq_some_iff.mp H
  obtain ⟨t133, A40, H⟩ := H
  replace H : (if (t133.length : Int) > 6 then (some (([] : List Int), 0, 25)) else ((qb_.f k l0 t133 (wrap64 (Int.tdiv (wrap64 (6 - (t133.length : Int))) 2)) 0).bind fun bt136 => (if bt136.2 = true then ((uk_.f l0 bt136.1).bind fun bt140 => (some (bt140.1, bt140.2, 0))) else (some (([] : List Int), 0, 25))))) = some (r1, r2, r3) := H
  have A4 := ba_.mk A40
  clear A40
  by_cases c5 : (t133.length : Int) > 6
  ·rw [if_pos c5] at H
   have c5b0 : decide (6 < (t133.length : Int)) = true := decide_eq_true c5
   have c5b1 : decide (6 < t133.length) = true := decide_eq_true (by omega)
   clear c5
   simp only [Option.some.injEq, Prod.mk.injEq] at H
   obtain ⟨rfl, rfl, rfl⟩ := H
   go_enter Try.func35, Try.ntmps35
   go_wp2_with (first | ((with_reducible refine ua_ (f := 51) rfl ?_); refine hc_ (some 9) rfl rfl Try.func51 (by kernel_rfl) rfl #[.slice A0 l0.length c0, .int .i64 (-1)] rfl (by (try simp only [List.map_toArray, List.map_cons, List.map_nil]); first | done | rfl | (simp only [List.length_drop, List.length_take]; rfl)) ?_; (with_reducible refine (li_.calls _ _ l0 (-1) true _ ?side1 ?side2 A2.out).mono ?_); (case side1 => repeat (first | exact HR0.out | (with_reducible refine Kd.yb_ ?_ _) | (with_reducible refine Kd.zb_ ?_ _) | (with_reducible refine Kd.jc_ ?_))); (case side2 => exact HC0.out); rintro e w' ⟨rfl, ⟨nd, rfl⟩⟩; refine ⟨_, rfl, ?_⟩) | ((with_reducible refine ua_ (f := 54) rfl ?_); refine hc_ (some 12) rfl rfl Try.func54 (by kernel_rfl) rfl #[.slice A0 l0.length c0] rfl (by (try simp only [List.map_toArray, List.map_cons, List.map_nil]); first | done | rfl | (simp only [List.length_drop, List.length_take]; rfl)) ?_; (with_reducible refine (up_.calls _ _ l0 t133 _ ?side1 ?side2 A4.out).mono ?_); (case side1 => repeat (first | exact HR0.out | (with_reducible refine Kd.yb_ ?_ _) | (with_reducible refine Kd.zb_ ?_ _) | (with_reducible refine Kd.jc_ ?_))); (case side2 => exact HC0.out); rintro e w6 ⟨v134, rfl, ho0, hb⟩; refine ⟨_, rfl, ?_⟩; have n0_ := ba_.mk (Kd.wc_ ho0 (eb_ (by repeat (first | (with_reducible first | exact HB.out | apply fa_ | apply ca_ | apply ga_) | exact HB.out)))); have n1_ := ba_.mk (gb_ (by repeat (first | (with_reducible first | exact HB.out | apply fa_ | apply ca_ | apply ga_) | exact HB.out)) hb); clear HB; have HO135 := n0_; have HB := n1_; clear n0_ n1_; (try clear hb); (try clear hb2); (try clear hk); (try clear hi); (try clear ho0); obtain ⟨Ao7, co7, eo7⟩ := Kd.fc_ HO135.out; subst eo7))
   go_ret3
   exact ⟨_, by first | rfl | (simp [bb_, cb_] <;> rfl) | (simp [*, bb_, cb_] <;> rfl), by first | exact Kd.uf_ _ _ _ _ _ | exact Kd.mh_ _ _ _ _ _ | exact Kd.ph_ _ _ _ _ _ | exact Kd.nh_ _ _ _ _ _ | exact Kd.oh_ _ _ _ _ _, by repeat (first | (with_reducible first | exact HB.out | apply fa_ | apply ca_ | apply ga_) | exact HB.out)⟩
  ·rw [if_neg c5] at H
   have c5b0 : decide (6 < (t133.length : Int)) = false := decide_eq_false c5
   have c5b1 : decide (6 < t133.length) = false := decide_eq_false (by omega)
   clear c5
   replace H := Option.bind_eq_some_iff.mp H
   obtain ⟨⟨t136, t137⟩, A80, H⟩ := H
   replace H : (if t137 = true then ((uk_.f l0 t136).bind fun bt140 => (some (bt140.1, bt140.2, 0))) else (some (([] : List Int), 0, 25))) = some (r1, r2, r3) := H
   have A8 := ba_.mk A80
   clear A80
   by_cases c9 : t137 = true
   ·subst c9
    have H1 : ((uk_.f l0 t136).bind fun bt140 => (some (bt140.1, bt140.2, 0))) = some (r1, r2, r3) := by rw [if_pos rfl] at H; exact H
    clear H
    have H := H1
    clear H1
    replace H := Option.bind_eq_some_iff.mp H
    obtain ⟨⟨t140, t141⟩, A100, H⟩ := H
    replace H : (some (t140, t141, 0)) = some (r1, r2, r3) := H
    have A10 := ba_.mk A100
    clear A100
    simp only [Option.some.injEq, Prod.mk.injEq] at H
    obtain ⟨rfl, rfl, rfl⟩ := H
    go_enter Try.func35, Try.ntmps35
    go_wp2_with (first | ((with_reducible refine ua_ (f := 51) rfl ?_); refine hc_ (some 9) rfl rfl Try.func51 (by kernel_rfl) rfl #[.slice A0 l0.length c0, .int .i64 (-1)] rfl (by (try simp only [List.map_toArray, List.map_cons, List.map_nil]); first | done | rfl | (simp only [List.length_drop, List.length_take]; rfl)) ?_; (with_reducible refine (li_.calls _ _ l0 (-1) true _ ?side1 ?side2 A2.out).mono ?_); (case side1 => repeat (first | exact HR0.out | (with_reducible refine Kd.yb_ ?_ _) | (with_reducible refine Kd.zb_ ?_ _) | (with_reducible refine Kd.jc_ ?_))); (case side2 => exact HC0.out); rintro e w' ⟨rfl, ⟨nd, rfl⟩⟩; refine ⟨_, rfl, ?_⟩) | ((with_reducible refine ua_ (f := 54) rfl ?_); refine hc_ (some 12) rfl rfl Try.func54 (by kernel_rfl) rfl #[.slice A0 l0.length c0] rfl (by (try simp only [List.map_toArray, List.map_cons, List.map_nil]); first | done | rfl | (simp only [List.length_drop, List.length_take]; rfl)) ?_; (with_reducible refine (up_.calls _ _ l0 t133 _ ?side1 ?side2 A4.out).mono ?_); (case side1 => repeat (first | exact HR0.out | (with_reducible refine Kd.yb_ ?_ _) | (with_reducible refine Kd.zb_ ?_ _) | (with_reducible refine Kd.jc_ ?_))); (case side2 => exact HC0.out); rintro e w11 ⟨v134, rfl, ho0, hb⟩; refine ⟨_, rfl, ?_⟩; have n0_ := ba_.mk (Kd.wc_ ho0 (eb_ (by repeat (first | (with_reducible first | exact HB.out | apply fa_ | apply ca_ | apply ga_) | exact HB.out)))); have n1_ := ba_.mk (gb_ (by repeat (first | (with_reducible first | exact HB.out | apply fa_ | apply ca_ | apply ga_) | exact HB.out)) hb); clear HB; have HO135 := n0_; have HB := n1_; clear n0_ n1_; (try clear hb); (try clear hb2); (try clear hk); (try clear hi); (try clear ho0); obtain ⟨Ao12, co12, eo12⟩ := Kd.fc_ HO135.out; subst eo12) | ((with_reducible refine ua_ (f := 55) rfl ?_); refine hc_ (some 23) rfl rfl Try.func55 (by kernel_rfl) rfl #[.slice A0 l0.length c0, .slice Ao12 t133.length co12, .int .i64 (wrap64 (Int.tdiv (wrap64 (6 - (t133.length : Int))) 2)), .int .i64 0] rfl (by (try simp only [List.map_toArray, List.map_cons, List.map_nil]); first | done | rfl | (simp only [List.length_drop, List.length_take]; rfl)) ?_; (with_reducible refine (qb_.calls k _ _ l0 _ _ t133 (wrap64 (Int.tdiv (wrap64 (6 - (t133.length : Int))) 2)) 0 t136 true _ ?side1 ?side2 ?side3 ?side4 A8.out).mono ?_); (case side1 => repeat (first | exact (Kd.ie_ HR0.out HB.out) | (with_reducible refine Kd.yb_ ?_ _) | (with_reducible refine Kd.zb_ ?_ _) | (with_reducible refine Kd.jc_ ?_))); (case side2 => exact HC0.out); (case side3 => repeat (first | exact (Kd.ta_ HO135.out).2.2 | (with_reducible refine Kd.yb_ ?_ _) | (with_reducible refine Kd.zb_ ?_ _) | (with_reducible refine Kd.jc_ ?_))); (case side4 => exact (Kd.ta_ HO135.out).2.1); rintro e w13 ⟨v138, rfl, ho0, hb⟩; refine ⟨_, rfl, ?_⟩; have n0_ := ba_.mk (Kd.wb_ (by (with_reducible repeat (first | apply Kd.la_ | apply Kd.ka_ | apply Kd.ma_)); exact HO135.out) (Kd.rc_ ho0) hb); have n1_ := ba_.mk (Kd.wc_ (Kd.qc_ ho0 (Kd.R_lt (by (with_reducible repeat (first | apply Kd.la_ | apply Kd.ka_ | apply Kd.ma_)); exact HO135.out))) (eb_ (by repeat (first | (with_reducible first | exact HB.out | apply fa_ | apply ca_ | apply ga_) | exact HB.out)))); have n2_ := ba_.mk (gb_ (by repeat (first | (with_reducible first | exact HB.out | apply fa_ | apply ca_ | apply ga_) | exact HB.out)) hb); clear HO135; clear HB; have HO135 := n0_; have HO139 := n1_; have HB := n2_; clear n0_ n1_ n2_; (try clear hb); (try clear hb2); (try clear hk); (try clear hi); (try clear ho0); obtain ⟨Ao14, co14, eo14⟩ := Kd.fc_ HO139.out; subst eo14))
    have D2 := ba_.mk (uk_.some A10.out)
    obtain ⟨ji, hji⟩ : ∃ j_ : Int, (wrap64 ((t136.length : Int) - 6)) = j_ := ⟨_, rfl⟩
    have hjin : ji.toNat = t136.length - 6 := by have := D2.out.1; have := D2.out.2.1; rw [← hji]; unfold wrap64; omega
    have hj0 : 0 ≤ ji := by have := D2.out.1; have := D2.out.2.1; rw [← hji]; unfold wrap64; omega
    have hj1 : ji ≤ ((t136.length : Int) : Int) := by have := D2.out.1; have := D2.out.2.1; rw [← hji]; unfold wrap64; omega
    have hjiw : (IntKind.i64.wrap ((t136.length : Int) - 6)) = ji := (gc_ _).trans hji
    obtain ⟨i027, hi027, _, hsz27, _⟩ := info_parts te_
    have hcut := pm_ (P := Try.prog) 27 3 .i64 Try.underlying27 hi027 Ao14 t136.length co14 ji hj0 hj1 (Kd.ta_ HO139.out).2.1
    replace hj0 := eq_true hj0
    replace hj1 := eq_true hj1
    have HBd := ba_.mk (ga_ HB.out)
    have HOd := ba_.mk (Kd.ma_ HO139.out)
    refine mi_ (n := 11) (S := fun w' => True) (ds := []) #[false, false, false, false, false, false, false, false, false, false, false] (by kernel_rfl) rfl rfl (trivial) (fun hHeld => ?_)
    refine id_ (i := 0) (N := some 28) (v := ?_) (a' := ?_) #[true, false, false, false, false, false, false, false, false, false, false] rfl rfl (by kernel_rfl) (fun _ _ _ h => h) (Or.inl ⟨by rfl, ?_⟩) ?_ ?_
    rotate_left
    ·intro w'
     go_simp
     with_reducible rfl
    rotate_left
    ·simp only [Act.put, List.setIfInBounds_toArray, List.set_cons_zero, List.set_cons_succ, gc_, lc_]
     rfl
    refine id_ (i := 1) (N := some 29) (v := ?_) (a' := ?_) #[true, true, false, false, false, false, false, false, false, false, false] rfl rfl (by kernel_rfl) (fun _ _ _ h => h) (Or.inl ⟨by rfl, ?_⟩) ?_ ?_
    rotate_left
    ·intro w'
     go_simp
     with_reducible rfl
    rotate_left
    ·simp only [Act.put, List.setIfInBounds_toArray, List.set_cons_zero, List.set_cons_succ, gc_, lc_]
     rfl
    refine id_ (i := 2) (N := some 30) (v := ?_) (a' := ?_) #[true, true, true, false, false, false, false, false, false, false, false] rfl rfl (by kernel_rfl) (fun _ _ _ h => h) (Or.inl ⟨by rfl, ?_⟩) ?_ ?_
    rotate_left
    ·intro w'
     go_simp
     with_reducible rfl
    rotate_left
    ·simp only [Act.put, List.setIfInBounds_toArray, List.set_cons_zero, List.set_cons_succ, gc_, lc_]
     rfl
    refine id_ (i := 3) (N := some 31) (v := ?_) (a' := ?_) #[true, true, true, true, false, false, false, false, false, false, false] rfl rfl (by kernel_rfl) (fun _ _ _ h => h) (Or.inl ⟨by rfl, ?_⟩) ?_ ?_
    rotate_left
    ·intro w'
     go_simp
     with_reducible rfl
    rotate_left
    ·simp only [Act.put, List.setIfInBounds_toArray, List.set_cons_zero, List.set_cons_succ, gc_, lc_]
     rfl
    refine id_ (i := 4) (N := some 32) (v := ?_) (a' := ?_) #[true, true, true, true, true, false, false, false, false, false, false] rfl rfl (by kernel_rfl) (fun _ _ _ h => h) (Or.inl ⟨by rfl, ?_⟩) ?_ ?_
    rotate_left
    ·intro w'
     go_simp
     with_reducible rfl
    rotate_left
    ·simp only [Act.put, List.setIfInBounds_toArray, List.set_cons_zero, List.set_cons_succ, gc_, lc_]
     rfl
    refine id_ (i := 5) (N := some 33) (v := ?_) (a' := ?_) #[true, true, true, true, true, true, false, false, false, false, false] rfl rfl (by kernel_rfl) (fun _ _ _ h => h) (Or.inl ⟨by rfl, ?_⟩) ?_ ?_
    rotate_left
    ·intro w'
     go_simp
     with_reducible rfl
    rotate_left
    ·simp only [Act.put, List.setIfInBounds_toArray, List.set_cons_zero, List.set_cons_succ, gc_, lc_]
     rfl
    refine id_ (i := 6) (N := some 34) (v := ?_) (a' := ?_) #[true, true, true, true, true, true, true, false, false, false, false] rfl rfl (by kernel_rfl) (fun _ _ _ h => h) (Or.inl ⟨by rfl, ?_⟩) ?_ ?_
    rotate_left
    ·intro w'
     go_simp
     with_reducible rfl
    rotate_left
    ·simp only [Act.put, List.setIfInBounds_toArray, List.set_cons_zero, List.set_cons_succ, gc_, lc_]
     rfl
    refine one_ (i := 7) (N := some 35) #[true, true, true, true, true, true, true, true, false, false, false] rfl rfl (by kernel_rfl) (by decide) (fun K hK => ?_)
    refine bk_ Try.func56 (by kernel_rfl) rfl #[.slice A0 l0.length c0, .slice Ao14 t136.length co14] (by rfl) rfl rfl (by simp only [List.map_toArray, List.map_cons, List.map_nil]; rfl) ?_
    with_reducible refine (nx_.calls _ _ l0 _ _ t136 t141 _ (Kd.ie_ HR0.out HBd.out) HC0.out (Kd.ta_ HOd.out).2.2 (Kd.ta_ HOd.out).2.1 D2.out.2.2.2).mono ?_
    rintro e w' ⟨rfl, ⟨nd, rfl⟩⟩
    refine ⟨_, rfl, ?_⟩
    refine hK.out _ _ (trivial) (fun hHeld => ?_)
    clear hK K
    refine ej_ (a' := ?_) ?_ ?_
    rotate_left
    ·show Act.put _ (some 35) _ = _
     simp only [Act.put, List.setIfInBounds_toArray, List.set_cons_zero, List.set_cons_succ, gc_, lc_]
     rfl
    refine id_ (i := 8) (N := some 2) (v := ?_) (a' := ?_) #[true, true, true, true, true, true, true, true, true, false, false] rfl rfl (by kernel_rfl) (fun _ _ _ h => h) (Or.inl ⟨by rfl, ?_⟩) ?_ ?_
    rotate_left
    ·intro w'
     go_simp
     with_reducible rfl
    rotate_left
    ·simp only [Act.put, List.setIfInBounds_toArray, List.set_cons_zero, List.set_cons_succ, gc_, lc_]
     rfl
    refine id_ (i := 9) (N := some 3) (v := ?_) (a' := ?_) #[true, true, true, true, true, true, true, true, true, true, false] rfl rfl (by kernel_rfl) (fun _ _ _ h => h) (Or.inl ⟨by rfl, ?_⟩) ?_ ?_
    rotate_left
    ·intro w'
     go_simp
     with_reducible rfl
    rotate_left
    ·simp only [Act.put, List.setIfInBounds_toArray, List.set_cons_zero, List.set_cons_succ, gc_, lc_]
     rfl
    refine id_ (i := 10) (N := some 4) (v := ?_) (a' := ?_) #[true, true, true, true, true, true, true, true, true, true, true] rfl rfl (by kernel_rfl) (fun _ _ _ h => h) (Or.inl ⟨by rfl, ?_⟩) ?_ ?_
    rotate_left
    ·intro w'
     go_simp
     with_reducible rfl
    rotate_left
    ·simp only [Act.put, List.setIfInBounds_toArray, List.set_cons_zero, List.set_cons_succ, gc_, lc_]
     rfl
    refine ik_ (by kernel_rfl) ?_
    go_wp2
    go_ret3
    exact ⟨_, rfl, by rw [D2.out.2.2.1, ← hjin]; exact Kd.bc_ (Kd.by_ (m := ji.toNat) (Kd.ka_ HOd.out nd) (by omega)) (fun _ _ => trivial), ca_ HBd.out nd⟩
   ·replace c9 := Bool.eq_false_iff.mpr c9
    subst c9
    have H1 : (some (([] : List Int), 0, 25)) = some (r1, r2, r3) := by rw [if_neg (show ¬ (false = true) by decide)] at H; exact H
    clear H
    have H := H1
    clear H1
    simp only [Option.some.injEq, Prod.mk.injEq] at H
    obtain ⟨rfl, rfl, rfl⟩ := H
    go_enter Try.func35, Try.ntmps35
    go_wp2_with (first | ((with_reducible refine ua_ (f := 51) rfl ?_); refine hc_ (some 9) rfl rfl Try.func51 (by kernel_rfl) rfl #[.slice A0 l0.length c0, .int .i64 (-1)] rfl (by (try simp only [List.map_toArray, List.map_cons, List.map_nil]); first | done | rfl | (simp only [List.length_drop, List.length_take]; rfl)) ?_; (with_reducible refine (li_.calls _ _ l0 (-1) true _ ?side1 ?side2 A2.out).mono ?_); (case side1 => repeat (first | exact HR0.out | (with_reducible refine Kd.yb_ ?_ _) | (with_reducible refine Kd.zb_ ?_ _) | (with_reducible refine Kd.jc_ ?_))); (case side2 => exact HC0.out); rintro e w' ⟨rfl, ⟨nd, rfl⟩⟩; refine ⟨_, rfl, ?_⟩) | ((with_reducible refine ua_ (f := 54) rfl ?_); refine hc_ (some 12) rfl rfl Try.func54 (by kernel_rfl) rfl #[.slice A0 l0.length c0] rfl (by (try simp only [List.map_toArray, List.map_cons, List.map_nil]); first | done | rfl | (simp only [List.length_drop, List.length_take]; rfl)) ?_; (with_reducible refine (up_.calls _ _ l0 t133 _ ?side1 ?side2 A4.out).mono ?_); (case side1 => repeat (first | exact HR0.out | (with_reducible refine Kd.yb_ ?_ _) | (with_reducible refine Kd.zb_ ?_ _) | (with_reducible refine Kd.jc_ ?_))); (case side2 => exact HC0.out); rintro e w16 ⟨v134, rfl, ho0, hb⟩; refine ⟨_, rfl, ?_⟩; have n0_ := ba_.mk (Kd.wc_ ho0 (eb_ (by repeat (first | (with_reducible first | exact HB.out | apply fa_ | apply ca_ | apply ga_) | exact HB.out)))); have n1_ := ba_.mk (gb_ (by repeat (first | (with_reducible first | exact HB.out | apply fa_ | apply ca_ | apply ga_) | exact HB.out)) hb); clear HB; have HO135 := n0_; have HB := n1_; clear n0_ n1_; (try clear hb); (try clear hb2); (try clear hk); (try clear hi); (try clear ho0); obtain ⟨Ao17, co17, eo17⟩ := Kd.fc_ HO135.out; subst eo17) | ((with_reducible refine ua_ (f := 55) rfl ?_); refine hc_ (some 23) rfl rfl Try.func55 (by kernel_rfl) rfl #[.slice A0 l0.length c0, .slice Ao17 t133.length co17, .int .i64 (wrap64 (Int.tdiv (wrap64 (6 - (t133.length : Int))) 2)), .int .i64 0] rfl (by (try simp only [List.map_toArray, List.map_cons, List.map_nil]); first | done | rfl | (simp only [List.length_drop, List.length_take]; rfl)) ?_; (with_reducible refine (qb_.calls k _ _ l0 _ _ t133 (wrap64 (Int.tdiv (wrap64 (6 - (t133.length : Int))) 2)) 0 t136 false _ ?side1 ?side2 ?side3 ?side4 A8.out).mono ?_); (case side1 => repeat (first | exact (Kd.ie_ HR0.out HB.out) | (with_reducible refine Kd.yb_ ?_ _) | (with_reducible refine Kd.zb_ ?_ _) | (with_reducible refine Kd.jc_ ?_))); (case side2 => exact HC0.out); (case side3 => repeat (first | exact (Kd.ta_ HO135.out).2.2 | (with_reducible refine Kd.yb_ ?_ _) | (with_reducible refine Kd.zb_ ?_ _) | (with_reducible refine Kd.jc_ ?_))); (case side4 => exact (Kd.ta_ HO135.out).2.1); rintro e w18 ⟨v138, rfl, ho0, hb⟩; refine ⟨_, rfl, ?_⟩; have n0_ := ba_.mk (Kd.wb_ (by (with_reducible repeat (first | apply Kd.la_ | apply Kd.ka_ | apply Kd.ma_)); exact HO135.out) (Kd.rc_ ho0) hb); have n1_ := ba_.mk (Kd.wc_ (Kd.qc_ ho0 (Kd.R_lt (by (with_reducible repeat (first | apply Kd.la_ | apply Kd.ka_ | apply Kd.ma_)); exact HO135.out))) (eb_ (by repeat (first | (with_reducible first | exact HB.out | apply fa_ | apply ca_ | apply ga_) | exact HB.out)))); have n2_ := ba_.mk (gb_ (by repeat (first | (with_reducible first | exact HB.out | apply fa_ | apply ca_ | apply ga_) | exact HB.out)) hb); clear HO135; clear HB; have HO135 := n0_; have HO139 := n1_; have HB := n2_; clear n0_ n1_ n2_; (try clear hb); (try clear hb2); (try clear hk); (try clear hi); (try clear ho0)))
    go_ret3
    exact ⟨_, by first | rfl | (simp [bb_, cb_] <;> rfl) | (simp [*, bb_, cb_] <;> rfl), by first | exact Kd.uf_ _ _ _ _ _ | exact Kd.mh_ _ _ _ _ _ | exact Kd.ph_ _ _ _ _ _ | exact Kd.nh_ _ _ _ _ _ | exact Kd.oh_ _ _ _ _ _, by repeat (first | (with_reducible first | exact HB.out | apply fa_ | apply ca_ | apply ga_) | exact HB.out)⟩
 ·replace c3 := Bool.eq_false_iff.mpr c3
  subst c3
  have H1 : (some (([] : List Int), 0, 2)) = some (r1, r2, r3) := by rw [if_neg (show ¬ (false = true) by decide)] at H; exact H
  clear H
  have H := H1
  clear H1
  simp only [Option.some.injEq, Prod.mk.injEq] at H
  obtain ⟨rfl, rfl, rfl⟩ := H
  go_enter Try.func35, Try.ntmps35
  go_wp2_with (first | ((with_reducible refine ua_ (f := 51) rfl ?_); refine hc_ (some 9) rfl rfl Try.func51 (by kernel_rfl) rfl #[.slice A0 l0.length c0, .int .i64 (-1)] rfl (by (try simp only [List.map_toArray, List.map_cons, List.map_nil]); first | done | rfl | (simp only [List.length_drop, List.length_take]; rfl)) ?_; (with_reducible refine (li_.calls _ _ l0 (-1) false _ ?side1 ?side2 A2.out).mono ?_); (case side1 => repeat (first | exact HR0.out | (with_reducible refine Kd.yb_ ?_ _) | (with_reducible refine Kd.zb_ ?_ _) | (with_reducible refine Kd.jc_ ?_))); (case side2 => exact HC0.out); rintro e w' ⟨rfl, ⟨nd, rfl⟩⟩; refine ⟨_, rfl, ?_⟩))
  go_ret3
  exact ⟨_, by first | rfl | (simp [bb_, cb_] <;> rfl) | (simp [*, bb_, cb_] <;> rfl), by first | exact Kd.uf_ _ _ _ _ _ | exact Kd.mh_ _ _ _ _ _ | exact Kd.ph_ _ _ _ _ _ | exact Kd.nh_ _ _ _ _ _ | exact Kd.oh_ _ _ _ _ _, by repeat (first | (with_reducible first | exact HB.out | apply fa_ | apply ca_ | apply ga_) | exact HB.out)⟩
def bd_.f (a0 : Int) : Option (Int) := if (wrap64 (a0 * 2)) ≥ 32 then (some (Go.bits .xor .i64 (wrap64 (a0 * 2)) 37)) else (some (wrap64 (a0 * 2)))
set_option maxHeartbeats 8000000 in
set_option maxRecDepth 100000 in
theorem bd_.calls (a0 : Int) (r : Int) (w : World) (h : bd_.f a0 = some r) :
  Calls Try.prog 41 #[.int .i64 a0] w fun e w' => e = .returned (.int .i64 r) ∧ ra_ w w' := by
 have H : (if (wrap64 (a0 * 2)) ≥ 32 then (some (Go.bits .xor .i64 (wrap64 (a0 * 2)) 37)) else (some (wrap64 (a0 * 2)))) = some r := h
 clear h
 by_cases c2 : (wrap64 (a0 * 2)) ≥ 32
 ·rw [if_pos c2] at H
  have c2b0 : decide (32 ≤ (wrap64 (a0 * 2))) = true := decide_eq_true c2
  clear c2
  obtain rfl := Option.some.inj H
  go_enter Try.func41, Try.ntmps41
  go_wp2
  go_ret
  exact ⟨by first | rfl | (simp; done) | (simp [*]; done), by repeat (first | exact ra_.refl _ | apply ra_.step)⟩
 ·rw [if_neg c2] at H
  have c2b0 : decide (32 ≤ (wrap64 (a0 * 2))) = false := decide_eq_false c2
  clear c2
  obtain rfl := Option.some.inj H
  go_enter Try.func41, Try.ntmps41
  go_wp2
  go_ret
  exact ⟨by first | rfl | (simp; done) | (simp [*]; done), by repeat (first | exact ra_.refl _ | apply ra_.step)⟩
end Go.Proofs.Ytpkhgapifnjbeaa.V
end
section
namespace Go.Proofs.Ytpkhgapifnjbeaa.V
open Go.RowKit Go.Proofs.Ytpkhgapifnjbeaa.G Go.Proofs.Ytpkhgapifnjbeaa.Rs Go.Proofs.YtpkhgapifnjbeaaW.PrintWords Go.Proofs.YtpkhgapifnjbeaaW.PrintLast Go.Proofs.YtpkhgapifnjbeaaW.PrintMore
attribute [local go_sem] dd_ fd_ rd_ sd_ uc_ vc_ ed_ gd_
set_option linter.unusedVariables false
set_option linter.unusedSimpArgs false
end Go.Proofs.Ytpkhgapifnjbeaa.V
end
section
namespace Go.Proofs.Ytpkhgapifnjbeaa.G
set_option linter.unusedVariables false
set_option linter.unusedSimpArgs false
open Go.RowKit Go.Proofs.YtpkhgapifnjbeaaW.PrintWords Go.Proofs.YtpkhgapifnjbeaaW.PrintLast Go.Proofs.YtpkhgapifnjbeaaW.PrintMore Go.Proofs.Ytpkhgapifnjbeaa.Rs
def oe_ (d : List Int) : Bool := decide (1 ≤ d.length ∧ d.length ≤ 9) && d.all isEl
def oi_ (n : Nat) : List Int := [(n : Int), (n : Int) + 1, (n : Int) + 2, (n : Int) + 3, (n : Int) + 4, (n : Int) + 5]
def encW (d : List Int) : List Int := d ++ List.replicate 6 (-1)
def encC (d : List Int) : List Int := vm_ (encW d) (oi_ d.length)
def encS (d : List Int) : List Int × Int := if oe_ d = true then (encC d, 0) else ([], 2)
theorem ds_ (n k : Nat) (hk : k < 6) : (oi_ n).getD k 0 = (n : Int) + k := by
 rcases (show k = 0 ∨ k = 1 ∨ k = 2 ∨ k = 3 ∨ k = 4 ∨ k = 5 from by omega) with rfl | rfl | rfl | rfl | rfl | rfl <;> simp [oi_]
theorem rj_ (n k : Nat) (hk : k < 6) : PS (oi_ n) k = n + k := by
 unfold PS; rw [ds_ n k hk]; omega
theorem qg_ (n : Nat) : (oi_ n).length = 6 := rfl
theorem cs_ (n L : Nat) (hL : L = n + 6) : gf_ L (oi_ n) := by
 refine ⟨⟨by rw [qg_]; exact Nat.le_refl _, fun k hk => ?_⟩, fun i j hi hj e => ?_⟩
 ·rw [qg_] at hk; rw [ds_ n k hk]; omega
 ·rw [qg_] at hi hj; rw [rj_ n i hi, rj_ n j hj] at e; omega
theorem lh_ (d : List Int) : (encW d).length = d.length + 6 := by simp [encW]
theorem bf_ {d : List Int} (h : oe_ d = true) : 1 ≤ d.length ∧ d.length ≤ 9 ∧ ∀ x ∈ d, isEl x = true := by
 unfold oe_ at h
 simp only [Bool.and_eq_true, decide_eq_true_eq, List.all_eq_true] at h
 exact ⟨h.1.1, h.1.2, h.2⟩
theorem md1_ (d : List Int) (k : Nat) (hk : k < 6) : (encW d).getD (d.length + k) 0 = -1 := by
 unfold encW
 rw [List.getD_eq_getElem?_getD, List.getElem?_append_right (by omega), Nat.add_sub_cancel_left, List.getElem?_replicate, if_pos hk]; rfl
theorem oy_ (d : List Int) (i : Nat) (hi : i < d.length) : (encW d).getD i 0 = d.getD i 0 := by
 unfold encW
 rw [List.getD_eq_getElem?_getD, List.getElem?_append_left hi, ← List.getD_eq_getElem?_getD]
theorem ql_ {d : List Int} (h : oe_ d = true) : hh_ (encW d) (oi_ d.length) (encC d) := by
 obtain ⟨h1, h2, h3⟩ := bf_ h
 have hl : (encW d).length ≤ 15 := by rw [lh_]; omega
 have hp := cs_ d.length (encW d).length (lh_ d)
 have hw : ∀ k, k < (oi_ d.length).length → -1 ≤ (encW d).getD (PS (oi_ d.length) k) 0 ∧ (encW d).getD (PS (oi_ d.length) k) 0 ≤ 31 := by
  intro k hk
  rw [qg_] at hk
  rw [rj_ _ _ hk, md1_ d k hk]; omega
 refine (zv_ hl hp hw).resolve_left fun he => ?_
 have hs := kv_ (n := 6) (M := kg_ (matFill (encW d) (oi_ d.length) 6)) (bs_ (encW d) (oi_ d.length) (Nat.le_refl _)) (ck_ hl hp)
 have : (vm_ (encW d) (oi_ d.length)).length = (encW d).length := by
  unfold vm_
  rw [if_pos (show (solR 6 (oi_ d.length).length (kg_ (matFill (encW d) (oi_ d.length) 6))).2 = true from hs), fo_]
 rw [he, lh_] at this
 simp at this
theorem cf_ {d : List Int} (h : oe_ d = true) : (encC d).length = d.length + 6 := by rw [(ql_ h).len, lh_]
theorem ys_ {d : List Int} (h : oe_ d = true) (i : Nat) (hi : i < d.length) : (encC d).getD i 0 = d.getD i 0 := by
 rw [(ql_ h).agree i (by rw [lh_]; omega) (fun k hk => by rw [qg_] at hk; rw [rj_ _ _ hk]; omega), oy_ d i hi]
theorem aj_ {d : List Int} {x : Int} (h : x ∈ d) : ∃ i, i < d.length ∧ d.getD i 0 = x := by
 obtain ⟨i, hi, e⟩ := List.mem_iff_getElem.1 h
 exact ⟨i, hi, by rw [List.getD_eq_getElem?_getD, List.getElem?_eq_getElem hi]; exact e⟩
theorem pf_ {d : List Int} {i : Nat} (h : i < d.length) : d.getD i 0 ∈ d := by
 rw [List.getD_eq_getElem?_getD, List.getElem?_eq_getElem h]; exact List.getElem_mem _
theorem enc_el {d : List Int} (h : oe_ d = true) : ∀ x ∈ encC d, isEl x = true := by
 obtain ⟨h1, h2, h3⟩ := bf_ h
 intro x hx
 obtain ⟨i, hi, rfl⟩ := aj_ hx
 rw [cf_ h] at hi
 rcases Nat.lt_or_ge i d.length with hd | hd
 ·rw [ys_ h i hd]; exact h3 _ (pf_ hd)
 ·have := (ql_ h).els (i - d.length) (by rw [qg_]; omega)
  rwa [rj_ _ _ (by omega), show d.length + (i - d.length) = i from by omega] at this
theorem om_ {c : List Int} {low : Int} (hl : 7 ≤ c.length ∧ c.length ≤ 15) (h : ∀ x ∈ c, low ≤ x ∧ x ≤ 31) : isWord c low = true := by
 unfold isWord
 simp only [Bool.and_eq_true, decide_eq_true_eq, Bool.not_eq_true', List.any_eq_false]
 refine ⟨hl, fun x hx => ?_⟩
 have := h x hx
 simp [th_]; omega
theorem me_ {c : List Int} {low : Int} (h : isWord c low = true) : 7 ≤ c.length ∧ c.length ≤ 15 ∧ ∀ x ∈ c, low ≤ x ∧ x ≤ 31 := by
 unfold isWord at h
 simp only [Bool.and_eq_true, decide_eq_true_eq, Bool.not_eq_true', List.any_eq_false] at h
 refine ⟨h.1.1, h.1.2, fun x hx => ?_⟩
 have := h.2 x hx
 simp [th_] at this
 omega
theorem xe_ {d : List Int} (h : oe_ d = true) : ve_ (encC d) = true := by
 obtain ⟨h1, h2, h3⟩ := bf_ h
 exact gu_ (om_ (by rw [cf_ h]; omega) (fun x hx => by have := (xd_ x).1 (enc_el h x hx); omega)) (ql_ h).cw
theorem qm_ {d : List Int} (h : oe_ d = true) : (encC d).take d.length = d := by
 apply List.ext_getElem (by rw [List.length_take, cf_ h]; omega)
 intro i h1 h2
 rw [List.getElem_take]
 have := ys_ h i h2
 rwa [List.getD_eq_getElem?_getD, List.getD_eq_getElem?_getD, List.getElem?_eq_getElem h2, List.getElem?_eq_getElem (by rw [cf_ h]; omega)] at this
theorem sv_ {c : List Int} (h : ve_ c = true) : oe_ (c.take (c.length - 6)) = true ∧ encC (c.take (c.length - 6)) = c := by
 obtain ⟨hw, hs⟩ := ye_ h
 obtain ⟨h1, h2, h3⟩ := me_ hw
 obtain ⟨d, hd⟩ : ∃ d, d = c.take (c.length - 6) := ⟨_, rfl⟩
 have hdl : d.length = c.length - 6 := by rw [hd, List.length_take]; omega
 have hdat : oe_ d = true := by
  unfold oe_
  simp only [Bool.and_eq_true, decide_eq_true_eq, List.all_eq_true]
  refine ⟨by omega, fun x hx => ?_⟩
  rw [hd] at hx
  have := h3 x (List.mem_of_mem_take hx)
  exact (xd_ x).2 (by omega)
 rw [← hd]
 refine ⟨hdat, ?_⟩
 have hl : (encW d).length ≤ 15 := by rw [lh_]; omega
 refine hh_.uniq hl (cs_ d.length (encW d).length (lh_ d)) (ql_ hdat) ⟨by rw [lh_]; omega, fun i hi hk => ?_, fun k hk => ?_, hs⟩
 ·have hid : i < d.length := by
   rcases Nat.lt_or_ge i d.length with h | h
   ·exact h
   ·rw [lh_] at hi
    exact absurd (by rw [rj_ _ _ (by omega)]; omega) (hk (i - d.length) (by rw [qg_]; omega))
  rw [oy_ d i hid, hd, List.getD_eq_getElem?_getD, List.getD_eq_getElem?_getD, List.getElem?_take, if_pos (by omega)]
 ·rw [qg_] at hk
  rw [rj_ _ _ hk]
  have := h3 _ (pf_ (d := c) (i := d.length + k) (by omega))
  exact (xd_ _).2 (by omega)
section
open Go.Proofs.Ytpkhgapifnjbeaa.E
theorem eb1_ (l : List Int) (hl : l.length ≤ 1000) : ∀ (d i k : Nat), i + d = l.length → d < k → (∀ j, j < i → l.getD j 0 ≠ -1) → ∃ v, ad_.l0 k l (-1) (l.length : Int) (i : Int) = some v ∧ (0 ≤ v ↔ ∃ x ∈ l, x = -1) := by
 intro d
 induction d with
 | zero =>
  intro i k hi hk hz
  obtain ⟨k, rfl⟩ : ∃ m, k = m + 1 := ⟨k - 1, by omega⟩
  simp only [ad_.l0]
  rw [if_neg (by omega)]
  refine ⟨-1, rfl, by omega, fun ⟨x, hx, e⟩ => ?_⟩
  obtain ⟨j, hj, rfl⟩ := aj_ hx
  exact absurd e (hz j (by omega))
 | succ d ih =>
  intro i k hi hk hz
  obtain ⟨k, rfl⟩ : ∃ m, k = m + 1 := ⟨k - 1, by omega⟩
  have hs : wrap64 ((i : Int) + 1) = ((i + 1 : Nat) : Int) := by unfold wrap64; omega
  simp only [ad_.l0]
  rw [if_pos (by omega), if_pos (by omega), if_pos (by omega), zd_]
  by_cases h0 : -1 = l.getD i 0
  ·rw [if_pos h0]
   exact ⟨i, rfl, fun _ => ⟨l.getD i 0, pf_ (by omega), h0.symm⟩, fun _ => by omega⟩
  ·rw [if_neg h0, hs]
   exact ih (i + 1) k (by omega) (by omega) fun j hj => by
    rcases Nat.lt_or_ge j i with h | h
    ·exact hz j h
    ·rw [show j = i from by omega]; exact fun q => h0 q.symm
theorem uw_ (l : List Int) (hl : l.length ≤ 1000) (k : Nat) (hk : 1002 ≤ k) : md_.f k l (-1) = some (l.any fun x => decide (x = -1)) := by
 unfold md_.f ad_.f
 obtain ⟨v, h1, h2⟩ := eb1_ l hl l.length 0 k (by omega) (by omega) (fun j hj => by omega)
 rw [show ((0 : Nat) : Int) = 0 from rfl] at h1
 rw [h1]
 simp only [Option.bind_some, Option.some.injEq]
 rw [Bool.eq_iff_iff]
 simp only [decide_eq_true_eq, List.any_eq_true]
 exact h2
def encTo (n : Nat) : Nat → List Int
 | 0 => List.replicate 6 0
 | i + 1 => (encTo n i).set i ((n : Int) + i)
theorem my_ (n i : Nat) : (encTo n i).length = 6 := by
 induction i with
 | zero => rfl
 | succ i ih => simp only [encTo, List.length_set, ih]
theorem ny_ (n : Nat) : encTo n 6 = oi_ n := by simp [encTo, oi_, List.replicate]
theorem enc_l0 (d : List Int) (hd : d.length ≤ 9) : ∀ (e i k : Nat), i + e = 6 → e < k → zc_.l0 k d (encW d) (encTo d.length i) 6 (i : Int) = some (encC d, 0) := by
 intro e
 induction e with
 | zero =>
  intro i k hi hk
  obtain ⟨k, rfl⟩ : ∃ m, k = m + 1 := ⟨k - 1, by omega⟩
  obtain rfl : i = 6 := by omega
  simp only [zc_.l0]
  rw [if_neg (by omega), ny_, lp_ (encW d) (oi_ d.length) (by rw [lh_]; omega) (cs_ d.length _ (lh_ d)).1]
  rfl
 | succ e ih =>
  intro i k hi hk
  obtain ⟨k, rfl⟩ : ∃ m, k = m + 1 := ⟨k - 1, by omega⟩
  have hs : wrap64 ((i : Int) + 1) = ((i + 1 : Nat) : Int) := by unfold wrap64; omega
  have hs2 : wrap64 ((d.length : Int) + (i : Int)) = (d.length : Int) + i := by unfold wrap64; omega
  simp only [zc_.l0]
  rw [if_pos (by omega), if_pos (by omega), if_pos (by rw [my_]; omega), hs, hs2, Int.toNat_natCast]
  exact ih (i + 1) k (by omega) (by omega)
theorem py_ (d : List Int) : (isWord (encW d) (-1) = true ∧ (d.any fun x => decide (x = -1)) = false) ↔ oe_ d = true := by
 constructor
 ·rintro ⟨hw, ha⟩
  obtain ⟨h1, h2, h3⟩ := me_ hw
  rw [lh_] at h1 h2
  unfold oe_
  simp only [Bool.and_eq_true, decide_eq_true_eq, List.all_eq_true]
  refine ⟨by omega, fun x hx => ?_⟩
  have h4 := h3 x (List.mem_append_left _ hx)
  have h5 := List.any_eq_false.1 ha x hx
  simp only [decide_eq_true_eq] at h5
  exact (xd_ x).2 (by omega)
 ·intro h
  obtain ⟨h1, h2, h3⟩ := bf_ h
  refine ⟨om_ (by rw [lh_]; omega) fun x hx => ?_, List.any_eq_false.2 fun x hx => ?_⟩
  ·rcases List.mem_append.1 hx with hx | hx
   ·have := (xd_ x).1 (h3 x hx); omega
   ·have := (List.mem_replicate.1 hx).2; omega
  ·have := (xd_ x).1 (h3 x hx)
   simp only [decide_eq_true_eq]; omega
theorem bb1_ (d : List Int) (hd : d.length ≤ 300) (k : Nat) (hk : 1100 ≤ k) : zc_.f k d = some (encS d) := by
 obtain ⟨k, rfl⟩ : ∃ m, k = m + 1 := ⟨k - 1, by omega⟩
 unfold zc_.f ct_.f
 rw [if_pos (by omega)]
 simp only [Option.bind_some]
 have hwe : fi_.f (d ++ List.replicate 6 (-1)) (-1) = some (isWord (encW d) (-1)) := rfl
 rw [hwe]
 simp only [Option.bind_some]
 unfold encS
 have hiff := py_ d
 by_cases hw : isWord (encW d) (-1) = true
 ·rw [if_pos hw, uw_ d (by omega) (k + 1) (by omega)]
  simp only [Option.bind_some]
  by_cases ha : (d.any fun x => decide (x = -1)) = true
  ·rw [ha, if_neg (fun h => by have := (hiff.2 h).2; rw [ha] at this; cases this)]
   simp only [zc_.j0]
   rw [if_pos trivial]
  ·have hdat := hiff.1 ⟨hw, Bool.eq_false_iff.2 ha⟩
   rw [if_pos hdat]
   rw [show (d.any fun x => decide (x = -1)) = false from Bool.eq_false_iff.2 ha]
   simp only [zc_.j0]
   rw [if_neg (by simp), if_pos (by omega)]
   simp only [Option.bind_some]
   exact enc_l0 d (bf_ hdat).2.1 6 0 k (by omega) (by omega)
 ·rw [if_neg hw, if_neg (fun h => hw (hiff.2 h).1)]
  simp only [zc_.j0]
  rw [if_pos trivial]
end
end Go.Proofs.Ytpkhgapifnjbeaa.G
end
section
namespace Go.Proofs.Ytpkhgapifnjbeaa.G
set_option linter.unusedVariables false
set_option linter.unusedSimpArgs false
open Go.RowKit Go.Proofs.YtpkhgapifnjbeaaW.PrintWords Go.Proofs.YtpkhgapifnjbeaaW.PrintLast Go.Proofs.YtpkhgapifnjbeaaW.PrintMore Go.Proofs.Ytpkhgapifnjbeaa.Rs
open Go.Proofs.Ytpkhgapifnjbeaa.V
theorem cv_ (a : Int) : mc_.f a = some (isEl a) := by
 unfold mc_.f isEl
 by_cases h : a ≥ 0
 ·rw [if_pos h, decide_eq_true (show 0 ≤ a from h), Bool.true_and]
 ·rw [if_neg h, decide_eq_false (show ¬ 0 ≤ a from h), Bool.false_and]
def cpTo (d : List Int) : Nat → List Int
 | 0 => List.replicate (d.length + 6) 0
 | i + 1 => (cpTo d i).set i (d.getD i 0)
theorem xr_ (d : List Int) (i : Nat) : (cpTo d i).length = d.length + 6 := by
 induction i with
 | zero => simp [cpTo]
 | succ i ih => simp only [cpTo, List.length_set, ih]
theorem ky_ (d : List Int) (j : Nat) : ∀ i, i ≤ d.length → (cpTo d i).getD j 0 = if j < i then d.getD j 0 else 0 := by
 intro i
 induction i with
 | zero =>
  intro _
  rw [if_neg (by omega)]
  simp only [cpTo]
  rw [List.getD_eq_getElem?_getD, List.getElem?_replicate]
  split <;> rfl
 | succ i ih =>
  intro hi
  simp only [cpTo]
  rw [ig_, xr_, ih (by omega)]
  by_cases e : i = j
  ·subst e; rw [if_pos ⟨rfl, by omega⟩, if_pos (by omega)]
  ·rw [if_neg (fun q => e q.1)]
   by_cases h : j < i
   ·rw [if_pos h, if_pos (by omega)]
   ·rw [if_neg h, if_neg (by omega)]
theorem tb1_ (d x : List Int) (hx : x = cpTo d d.length) (hd : oe_ d = true) : ∀ (e i k : Nat), i + e = 6 → e < k → ib_.l1 k d x ((oi_ d.length).take i) (i : Int) = some (encC d, 0) := by
 obtain ⟨h1, h2, h3⟩ := bf_ hd
 intro e
 induction e with
 | zero =>
  intro i k hi hk
  obtain ⟨k, rfl⟩ : ∃ m, k = m + 1 := ⟨k - 1, by omega⟩
  obtain rfl : i = 6 := by omega
  have hxl : x.length = d.length + 6 := by rw [hx, xr_]
  have hp := cs_ d.length x.length hxl
  simp only [ib_.l1]
  rw [if_neg (by omega), show (oi_ d.length).take 6 = oi_ d.length from List.take_of_length_le (by rw [qg_]; omega)]
  have hel : ln_ (zeroTo x (oi_ d.length) (oi_ d.length).length) = true := by
   refine List.all_eq_true.2 fun y hy => ?_
   obtain ⟨j, hj, rfl⟩ := aj_ hy
   rw [df_, hxl] at hj
   rw [tk_]
   by_cases hk : ∃ k, k < (oi_ d.length).length ∧ PS (oi_ d.length) k = j
   ·obtain ⟨k, hk, rfl⟩ := hk
    rw [oj_ hp _ _ _ (Nat.le_refl _) hk]; rfl
   ·rw [wi_ _ _ _ _ _ (fun k hk1 e => hk ⟨k, hk1, e⟩), hx, ky_ d j _ (Nat.le_refl _)]
    split
    ·exact h3 _ (pf_ (by assumption))
    ·rfl
  rw [yo_ x (oi_ d.length) (by omega) (by omega) hp.1 hel]
  have hf : hh_ x (oi_ d.length) (encC d) := by
   have hE := ql_ hd
   refine ⟨by rw [hE.len, lh_, hxl], fun i hi hk => ?_, hE.els, hE.cw⟩
   have hid : i < d.length := by
    rcases Nat.lt_or_ge i d.length with h | h
    ·exact h
    ·rw [hxl] at hi
     exact absurd (by rw [rj_ _ _ (by omega)]; omega) (hk (i - d.length) (by rw [qg_]; omega))
   rw [ys_ hd i hid, hx, ky_ d i _ (Nat.le_refl _), if_pos hid]
  rw [hm_ (by omega) hp hf]
  rfl
 | succ e ih =>
  intro i k hi hk
  obtain ⟨k, rfl⟩ : ∃ m, k = m + 1 := ⟨k - 1, by omega⟩
  have hs : wrap64 ((i : Int) + 1) = ((i + 1 : Nat) : Int) := by unfold wrap64; omega
  have hs2 : wrap64 ((d.length : Int) + (i : Int)) = (d.length : Int) + i := by unfold wrap64; omega
  simp only [ib_.l1]
  rw [if_pos (by omega), if_pos (by rw [List.length_take]; omega), hs, hs2]
  have := ih (i + 1) k (by omega) (by omega)
  rwa [List.take_add_one, List.getElem?_eq_getElem (by rw [qg_]; omega), show (some ((oi_ d.length)[i]'(by rw [qg_]; omega))).toList = [(d.length : Int) + i] from by rw [← ds_ d.length i (by omega), List.getD_eq_getElem?_getD, List.getElem?_eq_getElem (by rw [qg_]; omega)]; rfl] at this
theorem sb1_ (d : List Int) (h1 : 1 ≤ d.length) (h2 : d.length ≤ 9) : ∀ (e i k : Nat), i + e = d.length → e + 10 < k → (∀ j, j < i → isEl (d.getD j 0) = true) → ib_.l0 k d (cpTo d i) (i : Int) = some (encS d) := by
 intro e
 induction e with
 | zero =>
  intro i k hi hk hz
  obtain ⟨k, rfl⟩ : ∃ m, k = m + 1 := ⟨k - 1, by omega⟩
  obtain rfl : i = d.length := by omega
  have hd : oe_ d = true := by
   unfold oe_
   simp only [Bool.and_eq_true, decide_eq_true_eq, List.all_eq_true]
   refine ⟨⟨h1, h2⟩, fun x hx => ?_⟩
   obtain ⟨j, hj, rfl⟩ := aj_ hx
   exact hz j hj
  simp only [ib_.l0]
  rw [if_neg (by omega)]
  unfold encS
  rw [if_pos hd]
  exact tb1_ d _ rfl hd 6 0 k (by omega) (by omega)
 | succ e ih =>
  intro i k hi hk hz
  obtain ⟨k, rfl⟩ : ∃ m, k = m + 1 := ⟨k - 1, by omega⟩
  have hs : wrap64 ((i : Int) + 1) = ((i + 1 : Nat) : Int) := by unfold wrap64; omega
  simp only [ib_.l0]
  rw [if_pos (by omega), if_pos (by omega), zd_, cv_]
  simp only [Option.bind_some]
  by_cases he : isEl (d.getD i 0) = true
  ·rw [if_pos he, if_pos (by rw [xr_]; omega), hs, Int.toNat_natCast]
   refine ih (i + 1) k (by omega) (by omega) fun j hj => ?_
   rcases Nat.lt_or_ge j i with h | h
   ·exact hz j h
   ·rw [show j = i from by omega]; exact he
  ·rw [if_neg he]
   unfold encS
   rw [if_neg (fun h => he ((bf_ h).2.2 _ (pf_ (by omega))))]
theorem px_ (d : List Int) (hd : d.length ≤ 300) (k : Nat) (hk : 100 ≤ k) : ib_.f k d = some (encS d) := by
 obtain ⟨k, rfl⟩ : ∃ m, k = m + 1 := ⟨k - 1, by omega⟩
 unfold ib_.f
 by_cases h1 : (d.length : Int) < 1
 ·rw [if_pos h1]
  simp only [ib_.j0]
  rw [if_pos trivial]
  unfold encS
  rw [if_neg (fun h => by have := (bf_ h).1; omega)]
 ·rw [if_neg h1]
  by_cases h2 : (d.length : Int) > 9
  ·rw [decide_eq_true h2]
   simp only [ib_.j0]
   rw [if_pos trivial]
   unfold encS
   rw [if_neg (fun h => by have := (bf_ h).2.1; omega)]
  ·rw [decide_eq_false h2]
   have hs : wrap64 ((d.length : Int) + 6) = ((d.length + 6 : Nat) : Int) := by unfold wrap64; omega
   simp only [ib_.j0]
   rw [if_neg (by simp), hs, if_pos (by omega), if_pos (by omega), Int.toNat_natCast]
   exact sb1_ d (by omega) (by omega) d.length 0 k (by omega) (by omega) (fun j hj => by omega)
end Go.Proofs.Ytpkhgapifnjbeaa.G
end
section
namespace Go.Proofs.Ytpkhgapifnjbeaa.G
set_option linter.unusedVariables false
set_option linter.unusedSimpArgs false
open Go.RowKit Go.Proofs.Ytpkhgapifnjbeaa.Rs
def posN (P : Nat → Bool) : Nat → List Int
 | 0 => []
 | m + 1 => posN P m ++ if P m = true then [(m : Int)] else []
theorem lg_ {P : Nat → Bool} {x : Int} : ∀ m, x ∈ posN P m ↔ ∃ i, i < m ∧ P i = true ∧ x = (i : Int) := by
 intro m
 induction m with
 | zero => simp [posN]
 | succ m ih =>
  simp only [posN, List.mem_append, ih]
  constructor
  ·rintro (⟨i, h1, h2, h3⟩ | h)
   ·exact ⟨i, by omega, h2, h3⟩
   ·by_cases hp : P m = true
    ·rw [if_pos hp] at h
     exact ⟨m, by omega, hp, List.mem_singleton.1 h⟩
    ·rw [if_neg hp] at h; cases h
  ·rintro ⟨i, h1, h2, h3⟩
   rcases Nat.lt_or_ge i m with h | h
   ·exact .inl ⟨i, h, h2, h3⟩
   ·obtain rfl : i = m := by omega
    exact .inr (by rw [if_pos h2]; exact List.mem_singleton.2 h3)
theorem xu_ (P : Nat → Bool) (m : Nat) : (posN P m).Pairwise (· < ·) := by
 induction m with
 | zero => exact List.Pairwise.nil
 | succ m ih =>
  simp only [posN]
  refine List.pairwise_append.2 ⟨ih, ?_, fun a ha b hb => ?_⟩
  ·split <;> simp
  ·obtain ⟨i, h1, _, rfl⟩ := (lg_ m).1 ha
   split at hb
   ·rw [List.mem_singleton.1 hb]; omega
   ·cases hb
theorem wu_ (P Q R : Nat → Bool) (h : ∀ i, P i = true → Q i = true ∨ R i = true) (m : Nat) : (posN P m).length ≤ (posN Q m).length + (posN R m).length := by
 induction m with
 | zero => simp [posN]
 | succ m ih =>
  simp only [posN, List.length_append]
  by_cases hp : P m = true
  ·rw [if_pos hp]
   rcases h m hp with h | h
   ·rw [if_pos h]; simp only [List.length_singleton]; omega
   ·rw [if_pos h]; simp only [List.length_singleton]; omega
  ·rw [if_neg hp]; simp only [List.length_nil]; omega
theorem tp_ (P Q : Nat → Bool) (m : Nat) (h : ∀ i, i < m → P i = true → Q i = true) : (posN P m).length ≤ (posN Q m).length := by
 induction m with
 | zero => simp [posN]
 | succ m ih =>
  have := ih (fun i hi => h i (by omega))
  simp only [posN, List.length_append]
  by_cases hp : P m = true
  ·rw [if_pos hp, if_pos (h m (by omega) hp)]; simp only [List.length_singleton]; omega
  ·rw [if_neg hp]; simp only [List.length_nil]; omega
theorem qb1_ (P Q : Nat → Bool) (j m : Nat) (h : ∀ i, i < m → P i = true → Q i = true ∨ i = j) : (posN P m).length ≤ (posN Q m).length + 1 := by
 have h1 : (posN P m).length ≤ (posN Q m).length + (posN (fun i => decide (i = j)) m).length := by
  have := wu_ (fun i => P i && decide (i < m)) Q (fun i => decide (i = j)) (fun i hi => by
   simp only [Bool.and_eq_true, decide_eq_true_eq] at hi
   rcases h i hi.2 hi.1 with h | h
   ·exact .inl h
   ·exact .inr (by simpa using h)) m
  refine Nat.le_trans (tp_ P _ m (fun i hi hp => by simp [hp, hi])) this
 have h2 : ∀ m, (posN (fun i => decide (i = j)) m).length ≤ if j < m then 1 else 0 := by
  intro m
  induction m with
  | zero => simp [posN]
  | succ m ih =>
   simp only [posN, List.length_append]
   by_cases e : m = j
   ·subst e
    rw [if_neg (by omega)] at ih
    rw [if_pos (by simp), if_pos (by omega)]
    simp only [List.length_singleton]; omega
   ·rw [if_neg (by simpa using e)]
    simp only [List.length_nil, Nat.add_zero]
    split at ih
    ·rw [if_pos (by omega)]; exact ih
    ·omega
 have := h2 m
 split at this <;> omega
theorem je1_ (P Q : Nat → Bool) (j m : Nat) (hj : j < m) (hQ : Q j = true) (hP : P j = false) (h : ∀ i, i < m → P i = true → Q i = true) : (posN P m).length + 1 ≤ (posN Q m).length := by
 induction m with
 | zero => omega
 | succ m ih =>
  simp only [posN, List.length_append]
  by_cases e : j = m
  ·subst e
   have := tp_ P Q j (fun i hi => h i (by omega))
   rw [if_pos hQ, if_neg (by rw [hP]; simp)]
   simp only [List.length_singleton, List.length_nil]; omega
  ·have := ih (by omega) (fun i hi => h i (by omega))
   by_cases hp : P m = true
   ·rw [if_pos hp, if_pos (h m (by omega) hp)]; simp only [List.length_singleton]; omega
   ·rw [if_neg hp]; simp only [List.length_nil]; omega
theorem vz_ {P : Nat → Bool} {m : Nat} (h : (posN P m).length = 0) (i : Nat) (hi : i < m) : P i = false := by
 have h1 := List.eq_nil_of_length_eq_zero h
 by_cases hp : P i = true
 ·have : (i : Int) ∈ posN P m := (lg_ m).2 ⟨i, hi, hp, rfl⟩
  rw [h1] at this; cases this
 ·simpa using hp
theorem wo_ {n : Nat} {ps : List Int} (h6 : ps.length ≤ 6) (hs : ps.Nodup) (hr : ∀ x ∈ ps, 0 ≤ x ∧ x < n) : gf_ n ps := by
 refine ⟨⟨h6, fun k hk => hr _ (pf_ hk)⟩, fun i j hi hj e => ?_⟩
 have h1 := hr _ (pf_ hi)
 have h2 := hr _ (pf_ hj)
 have e2 : ps.getD i 0 = ps.getD j 0 := by unfold PS at e; omega
 rw [List.getD_eq_getElem?_getD, List.getD_eq_getElem?_getD, List.getElem?_eq_getElem hi, List.getElem?_eq_getElem hj] at e2
 have e3 := Option.some.inj (show some ps[i] = some ps[j] from by simpa using e2)
 rcases Nat.lt_trichotomy i j with h | h | h
 ·exact absurd e3 (List.pairwise_iff_getElem.1 hs i j hi hj h)
 ·exact h
 ·exact absurd e3.symm (List.pairwise_iff_getElem.1 hs j i hj hi h)
theorem jj_ (P : Nat → Bool) (m : Nat) : (posN P m).Nodup := (xu_ P m).imp (fun h => by omega)
theorem gw_ {P : Nat → Bool} {n : Nat} (h6 : (posN P n).length ≤ 6) : gf_ n (posN P n) := wo_ h6 (jj_ P n) fun x hx => by
 obtain ⟨i, h1, _, rfl⟩ := (lg_ n).1 hx
 omega
theorem tq_ {ps : List Int} {i : Nat} (h : (i : Int) ∈ ps) : ∃ k, k < ps.length ∧ PS ps k = i := by
 obtain ⟨k, hk, e⟩ := aj_ h
 exact ⟨k, hk, by unfold PS; rw [e]; omega⟩
theorem ew_ {ps : List Int} {n k : Nat} (hp : ag_ n ps) (hk : k < ps.length) : ((PS ps k : Nat) : Int) ∈ ps := by
 have := hp.2 k hk
 unfold PS
 rw [Int.toNat_of_nonneg this.1]
 exact pf_ hk
theorem hi_ (w : List Int) (m : Nat) : eraN w m = posN (fun i => decide (w.getD i 0 < 0)) m := by
 induction m with
 | zero => rfl
 | succ m ih => simp only [eraN, posN, ih, decide_eq_true_eq]
theorem qo_ (w c : List Int) (m : Nat) : errN w c m = (posN (fun i => decide (0 ≤ w.getD i 0) && decide (w.getD i 0 ≠ c.getD i 0)) m).length := by
 induction m with
 | zero => rfl
 | succ m ih =>
  simp only [errN, posN, ih, List.length_append]
  congr 1
  by_cases h : 0 ≤ w.getD m 0 ∧ w.getD m 0 ≠ c.getD m 0
  ·rw [if_pos h, if_pos (by simp only [Bool.and_eq_true, decide_eq_true_eq]; exact h)]; rfl
  ·rw [if_neg h, if_neg (by simp only [Bool.and_eq_true, decide_eq_true_eq]; exact h)]; rfl
structure Near (w c : List Int) : Prop where
 code : ve_ c = true
 len : c.length = w.length
 near : 2 * errN w c w.length + (eraN w w.length).length ≤ 6
theorem fh_ {c : List Int} (h : ve_ c = true) (i : Nat) (hi : i < c.length) : isEl (c.getD i 0) = true := sr_ (eq_ (ye_ h).1).1 i hi
theorem wm_ {c c' ps : List Int} (h' : ve_ c' = true) (hp : gf_ c.length ps) (hl : c'.length = c.length) (ha : ∀ i, i < c.length → (i : Int) ∉ ps → c'.getD i 0 = c.getD i 0) : hh_ c ps c' :=
 ⟨hl, fun i hi hk => ha i hi (fun hm => by obtain ⟨k, h1, h2⟩ := tq_ hm; exact hk k h1 h2), fun k hk => fh_ h' _ (by rw [hl]; exact hp.lt hk), (ye_ h').2⟩
theorem tu_ {w c c' : List Int} (h : Near w c) (h' : Near w c') : c = c' := by
 obtain ⟨P, hP⟩ : ∃ P : Nat → Bool, P = fun i => decide (w.getD i 0 < 0) || ((decide (0 ≤ w.getD i 0) && decide (w.getD i 0 ≠ c.getD i 0)) || (decide (0 ≤ w.getD i 0) && decide (w.getD i 0 ≠ c'.getD i 0))) := ⟨_, rfl⟩
 have hn := h.near
 have hn' := h'.near
 have h6 : (posN P w.length).length ≤ 6 := by
  have a1 := wu_ P (fun i => decide (w.getD i 0 < 0)) (fun i => (decide (0 ≤ w.getD i 0) && decide (w.getD i 0 ≠ c.getD i 0)) || (decide (0 ≤ w.getD i 0) && decide (w.getD i 0 ≠ c'.getD i 0))) (fun i hi => by rw [hP] at hi; simpa [Bool.or_eq_true] using hi) w.length
  have a2 := wu_ (fun i => (decide (0 ≤ w.getD i 0) && decide (w.getD i 0 ≠ c.getD i 0)) || (decide (0 ≤ w.getD i 0) && decide (w.getD i 0 ≠ c'.getD i 0))) (fun i => decide (0 ≤ w.getD i 0) && decide (w.getD i 0 ≠ c.getD i 0)) (fun i => decide (0 ≤ w.getD i 0) && decide (w.getD i 0 ≠ c'.getD i 0)) (fun i hi => by simpa only [Bool.or_eq_true] using hi) w.length
  rw [← hi_] at a1
  rw [← qo_, ← qo_] at a2
  omega
 have hD : gf_ c.length (posN P w.length) := by rw [h.len]; exact gw_ h6
 have hag : ∀ i, i < c.length → (i : Int) ∉ posN P w.length → c'.getD i 0 = c.getD i 0 := by
  intro i hi hm
  have hi' : P i ≠ true := fun hp => hm ((lg_ _).2 ⟨i, by rw [← h.len]; exact hi, hp, rfl⟩)
  rw [hP] at hi'
  have b1 : ¬ w.getD i 0 < 0 := fun q => hi' (by simp only [Bool.or_eq_true, Bool.and_eq_true, decide_eq_true_eq]; exact .inl q)
  have b2 : w.getD i 0 = c.getD i 0 := Classical.byContradiction fun q => hi' (by simp only [Bool.or_eq_true, Bool.and_eq_true, decide_eq_true_eq]; exact .inr (.inl ⟨by omega, q⟩))
  have b3 : w.getD i 0 = c'.getD i 0 := Classical.byContradiction fun q => hi' (by simp only [Bool.or_eq_true, Bool.and_eq_true, decide_eq_true_eq]; exact .inr (.inr ⟨by omega, q⟩))
  omega
 have hl := (eq_ (ye_ h.code).1).2.2
 exact hh_.uniq hl hD (wm_ h.code hD rfl (fun i hi _ => rfl)) (wm_ h'.code hD (by rw [h'.len, h.len]) hag)
end Go.Proofs.Ytpkhgapifnjbeaa.G
end
section
namespace Go.Proofs.Ytpkhgapifnjbeaa.G
set_option linter.unusedVariables false
set_option linter.unusedSimpArgs false
open Go.RowKit Go.Proofs.YtpkhgapifnjbeaaW.PrintWords Go.Proofs.YtpkhgapifnjbeaaW.PrintLast Go.Proofs.YtpkhgapifnjbeaaW.PrintMore Go.Proofs.Ytpkhgapifnjbeaa.Rs
open Go.Proofs.Ytpkhgapifnjbeaa.V
def difP (w c ps : List Int) (i : Nat) : Bool := decide ((i : Int) ∉ ps) && decide (w.getD i 0 ≠ c.getD i 0)
def difN (w c ps : List Int) : Nat := (posN (difP w c ps) w.length).length
theorem xh_ {w c ps : List Int} {i : Nat} : difP w c ps i = true ↔ (i : Int) ∉ ps ∧ w.getD i 0 ≠ c.getD i 0 := by
 unfold difP
 simp only [Bool.and_eq_true, decide_eq_true_eq]
theorem fl_ {P : Nat → Bool} {m : Nat} (h : ∀ i, i < m → P i = false) : (posN P m).length = 0 := by
 induction m with
 | zero => rfl
 | succ m ih =>
  simp only [posN, List.length_append]
  rw [ih (fun i hi => h i (by omega)), if_neg (by rw [h m (by omega)]; simp)]; rfl
structure Srch (w ps : List Int) (more fr : Nat) : Prop where
 nodup : ps.Nodup
 rng : ∀ x ∈ ps, 0 ≤ x ∧ x < w.length
 era : ∀ i, i < w.length → w.getD i 0 < 0 → (i : Int) ∈ ps
 frm : ∀ i, fr ≤ i → i < w.length → (i : Int) ∈ ps → w.getD i 0 < 0
 len : ps.length + more ≤ 6
section
variable {w ps : List Int} {more fr : Nat}
theorem Srch.D (h : Srch w ps more fr) : gf_ w.length ps := wo_ (by have := h.len; omega) h.nodup h.rng
theorem Srch.el (hw : isWord w (-1) = true) (h : Srch w ps more fr) : ln_ (zeroTo w ps ps.length) = true := by
 obtain ⟨h1, h2, h3⟩ := me_ hw
 refine List.all_eq_true.2 fun y hy => ?_
 obtain ⟨j, hj, rfl⟩ := aj_ hy
 rw [df_] at hj
 rw [tk_]
 by_cases hk : ∃ k, k < ps.length ∧ PS ps k = j
 ·obtain ⟨k, hk, rfl⟩ := hk
  rw [oj_ h.D _ _ _ (Nat.le_refl _) hk]; rfl
 ·have hk' : ∀ k, k < ps.length → PS ps k ≠ j := fun k hk1 e => hk ⟨k, hk1, e⟩
  rw [wi_ _ _ _ _ _ hk']
  have h4 := h3 _ (pf_ hj)
  have h5 : ¬ w.getD j 0 < 0 := fun q => by obtain ⟨k, a, b⟩ := tq_ (h.era j hj q); exact hk' k a b
  exact (xd_ _).2 (by omega)
theorem Srch.fill (hw : isWord w (-1) = true) (h : Srch w ps more fr) : gl_.f w ps = some (fillS w ps) := by
 obtain ⟨h1, h2, h3⟩ := me_ hw
 exact yo_ w ps (by omega) h2 h.D.1 (h.el hw)
theorem bw_ {c : List Int} (hp : gf_ w.length ps) (h : hh_ w ps c) : difN w c ps = 0 := by
 refine fl_ fun i hi => ?_
 by_cases hd : difP w c ps i = true
 ·obtain ⟨a, b⟩ := xh_.1 hd
  exact absurd (h.agree i hi (fun k hk e => a (by rw [← e]; exact ew_ hp.1 hk))).symm b
 ·simpa using hd
theorem uv_ {c : List Int} (hp : gf_ w.length ps) (hc : ve_ c = true) (hl : c.length = w.length) (h : difN w c ps = 0) : hh_ w ps c := by
 refine ⟨hl, fun i hi hk => ?_, fun k hk => fh_ hc _ (by rw [hl]; exact hp.lt hk), (ye_ hc).2⟩
 have := vz_ h i hi
 have h2 : (i : Int) ∉ ps := fun hm => by obtain ⟨k, a, b⟩ := tq_ hm; exact hk k a b
 exact Classical.byContradiction fun q => by
  have h3 := xh_.2 ⟨h2, fun e => q e.symm⟩
  rw [this] at h3; cases h3
def Sound (w ps : List Int) (more : Nat) (r : List Int × Bool) : Prop := r.2 = true → ve_ r.1 = true ∧ r.1.length = w.length ∧ difN w r.1 ps ≤ more
def Compl (w ps : List Int) (more fr : Nat) (r : List Int × Bool) : Prop := ∀ c, ve_ c = true → c.length = w.length → difN w c ps ≤ more → (∀ i, i < w.length → difP w c ps i = true → fr ≤ i) → r.2 = true
theorem Srch.next (h : Srch w ps (more + 1) fr) {i : Nat} (hf : fr ≤ i) (hi : i < w.length) (h0 : ¬ w.getD i 0 < 0) : Srch w (ps ++ [(i : Int)]) more (i + 1) := by
 have hni : (i : Int) ∉ ps := fun hm => h0 (h.frm i hf hi hm)
 refine ⟨List.nodup_append.2 ⟨h.nodup, by simp, fun a ha b hb e => hni (by rw [List.mem_singleton.1 hb] at e; rw [← e]; exact ha)⟩, fun x hx => ?_, fun j hj hz => List.mem_append_left _ (h.era j hj hz), fun j h1 h2 h3 => ?_, ?_⟩
 ·rcases List.mem_append.1 hx with hx | hx
  ·exact h.rng x hx
  ·rw [List.mem_singleton.1 hx]; omega
 ·rcases List.mem_append.1 h3 with h3 | h3
  ·exact h.frm j (by omega) h2 h3
  ·have := List.mem_singleton.1 h3; omega
 ·have := h.len
  simp only [List.length_append, List.length_singleton]; omega
theorem za1_ (c : List Int) (i : Nat) : difN w c ps ≤ difN w c (ps ++ [(i : Int)]) + 1 := by
 refine qb1_ _ _ i _ fun j hj hd => ?_
 obtain ⟨a, b⟩ := xh_.1 hd
 by_cases e : j = i
 ·exact .inr e
 ·exact .inl (xh_.2 ⟨fun hm => (List.mem_append.1 hm).elim a (fun q => e (by have := List.mem_singleton.1 q; omega)), b⟩)
theorem ya1_ {c : List Int} {i : Nat} (hi : i < w.length) (hd : difP w c ps i = true) : difN w c (ps ++ [(i : Int)]) + 1 ≤ difN w c ps := by
 refine je1_ _ _ i _ hi hd ?_ fun j hj hd => ?_
 ·have : ¬ difP w c (ps ++ [(i : Int)]) i = true := fun q => (xh_.1 q).1 (by simp)
  simpa using this
 ·obtain ⟨a, b⟩ := xh_.1 hd
  exact xh_.2 ⟨fun hm => a (List.mem_append_left _ hm), b⟩
theorem ab1_ {c : List Int} {i : Nat} (hp : ∀ x, x < w.length → difP w c ps x = true → i ≤ x) : ∀ x, x < w.length → difP w c (ps ++ [(i : Int)]) x = true → i + 1 ≤ x := by
 intro x hx hqx
 obtain ⟨a, b⟩ := xh_.1 hqx
 have h4 := hp x hx (xh_.2 ⟨fun hm => a (List.mem_append_left _ hm), b⟩)
 have h5 : x ≠ i := fun e => a (List.mem_append_right _ (by rw [e]; exact List.mem_singleton.2 rfl))
 omega
theorem fa1_ (hw : isWord w (-1) = true) (ih : ∀ (ps : List Int) (fr k : Nat), Srch w ps more fr → (more + 1) * 20 < k → ∃ r, qb_.f k w ps (more : Int) (fr : Int) = some r ∧ Sound w ps more r ∧ Compl w ps more fr r)
  (h : Srch w ps (more + 1) fr) (hno : ∀ c, ve_ c = true → c.length = w.length → difN w c ps ≠ 0) : ∀ (d i k : Nat), i + d = w.length → (more + 1) * 20 + d + 1 < k → fr ≤ i → ∃ r, qb_.l0 k w ps ((more + 1 : Nat) : Int) (i : Int) = some r ∧ Sound w ps (more + 1) r ∧ Compl w ps (more + 1) i r := by
 obtain ⟨w1, w2, w3⟩ := me_ hw
 have hlen := h.len
 intro d
 induction d with
 | zero =>
  intro i k hi hk hf
  obtain ⟨k, rfl⟩ : ∃ m, k = m + 1 := ⟨k - 1, by omega⟩
  simp only [qb_.l0]
  rw [if_neg (by omega)]
  refine ⟨([], false), rfl, (fun q => by cases q), fun c hc hl hd hp => absurd (fl_ fun j hj => ?_) (hno c hc hl)⟩
  by_cases q : difP w c ps j = true
  ·have := hp j hj q; omega
  ·simpa using q
 | succ d ihd =>
  intro i k hi hk hf
  obtain ⟨k, rfl⟩ : ∃ m, k = m + 1 := ⟨k - 1, by omega⟩
  have hs : wrap64 ((i : Int) + 1) = ((i + 1 : Nat) : Int) := by unfold wrap64; omega
  have hs2 : wrap64 (((more + 1 : Nat) : Int) - 1) = (more : Int) := by unfold wrap64; omega
  simp only [qb_.l0]
  rw [if_pos (by omega), if_pos (by omega), zd_, hs, hs2]
  obtain ⟨r, hr, hS, hC⟩ := ihd (i + 1) k (by omega) (by omega) (by omega)
  by_cases h0 : w.getD i 0 < 0
  ·rw [if_pos h0]
   refine ⟨r, hr, hS, fun c hc hl hd hp => hC c hc hl hd fun j hj hq => ?_⟩
   have := hp j hj hq
   have : j ≠ i := fun e => (xh_.1 hq).1 (by rw [e]; exact h.era i (by omega) h0)
   omega
  ·rw [if_neg h0]
   have hnx := h.next hf (by omega) h0
   obtain ⟨r', hr', hS', hC'⟩ := ih (ps ++ [(i : Int)]) (i + 1) k hnx (by omega)
   rw [if_pos (by simp only [List.length_nil]; omega)]
   simp only [List.nil_append, Option.bind_some]
   rw [if_pos (by omega), hr']
   simp only [Option.bind_some]
   by_cases h2 : r'.2 = true
   ·rw [if_pos h2]
    obtain ⟨a, b, c⟩ := hS' h2
    have hm := za1_ (w := w) (ps := ps) r'.1 i
    have hm2 : difN w r'.1 ps ≤ more + 1 := by omega
    exact ⟨(r'.1, true), rfl, fun _ => ⟨a, b, hm2⟩, fun _ _ _ _ _ => rfl⟩
   ·rw [if_neg h2]
    refine ⟨r, hr, hS, fun c hc hl hd hp => hC c hc hl hd fun j hj hq => ?_⟩
    have h3 := hp j hj hq
    by_cases e : j = i
    ·subst e
     have h6 : j < w.length := hj
     have h5 : difN w c (ps ++ [(j : Int)]) ≤ more := Nat.le_of_succ_le_succ (Nat.le_trans (ya1_ h6 hq) hd)
     exact absurd (hC' c hc hl h5 (ab1_ hp)) h2
    ·omega
theorem ga1_ (hw : isWord w (-1) = true) : ∀ (more : Nat) (ps : List Int) (fr k : Nat), Srch w ps more fr → (more + 1) * 20 < k → ∃ r, qb_.f k w ps (more : Int) (fr : Int) = some r ∧ Sound w ps more r ∧ Compl w ps more fr r := by
 obtain ⟨w1, w2, w3⟩ := me_ hw
 intro more
 induction more with
 | zero =>
  intro ps fr k h hk
  obtain ⟨k, rfl⟩ : ∃ m, k = m + 1 := ⟨k - 1, by omega⟩
  simp only [qb_.f]
  rw [h.fill hw]
  simp only [Option.bind_some]
  by_cases h2 : (fillS w ps).2 = true
  ·rw [if_pos h2]
   obtain ⟨a, b⟩ := aw_ w2 h.D h2
   have hm2 : difN w (fillS w ps).1 ps ≤ 0 := by rw [bw_ h.D a]; exact Nat.zero_le _
   exact ⟨((fillS w ps).1, true), rfl, fun _ => ⟨b, a.len, hm2⟩, fun _ _ _ _ _ => rfl⟩
  ·rw [if_neg h2, if_pos (by omega)]
   refine ⟨([], false), rfl, (fun q => by cases q), fun c hc hl hd _ => absurd ?_ h2⟩
   rw [hm_ w2 h.D (uv_ h.D hc hl (by omega))]
   exact hc
 | succ more ih =>
  intro ps fr k h hk
  obtain ⟨k, rfl⟩ : ∃ m, k = m + 1 := ⟨k - 1, by omega⟩
  simp only [qb_.f]
  rw [h.fill hw]
  simp only [Option.bind_some]
  by_cases h2 : (fillS w ps).2 = true
  ·rw [if_pos h2]
   obtain ⟨a, b⟩ := aw_ w2 h.D h2
   have hm2 : difN w (fillS w ps).1 ps ≤ more + 1 := by rw [bw_ h.D a]; exact Nat.zero_le _
   exact ⟨((fillS w ps).1, true), rfl, fun _ => ⟨b, a.len, hm2⟩, fun _ _ _ _ _ => rfl⟩
  ·rw [if_neg h2, if_neg (by omega)]
   have hno : ∀ c, ve_ c = true → c.length = w.length → difN w c ps ≠ 0 := fun c hc hl hd => h2 (by rw [hm_ w2 h.D (uv_ h.D hc hl hd)]; exact hc)
   rcases Nat.lt_or_ge w.length fr with hfr | hfr
   ·obtain ⟨k, rfl⟩ : ∃ m, k = m + 1 := ⟨k - 1, by omega⟩
    simp only [qb_.l0]
    rw [if_neg (by omega)]
    refine ⟨([], false), rfl, (fun q => by cases q), fun c hc hl hd hp => absurd (fl_ fun j hj => ?_) (hno c hc hl)⟩
    by_cases q : difP w c ps j = true
    ·have := hp j hj q; omega
    ·simpa using q
   ·exact fa1_ hw ih h hno (w.length - fr) fr k (by omega) (by omega) (Nat.le_refl _)
end
end Go.Proofs.Ytpkhgapifnjbeaa.G
end
section
namespace Go.Proofs.Ytpkhgapifnjbeaa.G
set_option linter.unusedVariables false
set_option linter.unusedSimpArgs false
open Go.RowKit Go.Proofs.YtpkhgapifnjbeaaW.PrintWords Go.Proofs.YtpkhgapifnjbeaaW.PrintLast Go.Proofs.YtpkhgapifnjbeaaW.PrintMore Go.Proofs.Ytpkhgapifnjbeaa.Rs
open Go.Proofs.Ytpkhgapifnjbeaa.V
open Classical in
noncomputable def decS (w : List Int) : List Int × Int × Int :=
 if isWord w (-1) = true then
  (if h : ∃ c, Near w c then ((Classical.choose h).take (w.length - 6), ((errN w (Classical.choose h) w.length : Nat) : Int), 0) else ([], 0, 25))
 else ([], 0, 2)
theorem ak_ {w c : List Int} (hw : isWord w (-1) = true) (h : Near w c) : decS w = (c.take (w.length - 6), ((errN w c w.length : Nat) : Int), 0) := by
 have h' : ∃ c, Near w c := ⟨c, h⟩
 unfold decS
 rw [if_pos hw, dif_pos h', tu_ (Classical.choose_spec h') h]
theorem ol_ {w : List Int} (hw : isWord w (-1) = true) (h : ∀ c, ¬ Near w c) : decS w = ([], 0, 25) := by
 unfold decS
 rw [if_pos hw, dif_neg (fun ⟨c, hc⟩ => h c hc)]
theorem zr_ {w : List Int} (hw : ¬ isWord w (-1) = true) : decS w = ([], 0, 2) := by
 unfold decS
 rw [if_neg hw]
theorem lu_ (w c : List Int) : errN w c w.length = difN w c (eraN w w.length) := by
 rw [qo_, hi_]
 unfold difN
 apply Nat.le_antisymm
 ·refine tp_ _ _ _ fun i hi h => ?_
  simp only [Bool.and_eq_true, decide_eq_true_eq] at h
  refine xh_.2 ⟨fun hm => ?_, h.2⟩
  obtain ⟨j, _, h2, h3⟩ := (lg_ _).1 hm
  simp only [decide_eq_true_eq] at h2
  rw [show i = j from by omega] at h
  omega
 ·refine tp_ _ _ _ fun i hi h => ?_
  obtain ⟨a, b⟩ := xh_.1 h
  simp only [Bool.and_eq_true, decide_eq_true_eq]
  refine ⟨?_, b⟩
  rcases Int.lt_or_le (w.getD i 0) 0 with h0 | h0
  ·exact absurd ((lg_ _).2 ⟨i, hi, by simpa using h0, rfl⟩) a
  ·exact h0
theorem pn_ (w : List Int) (i : Nat) : (i : Int) ∈ eraN w w.length ↔ i < w.length ∧ w.getD i 0 < 0 := by
 rw [hi_, lg_]
 constructor
 ·rintro ⟨j, h1, h2, h3⟩
  rw [show i = j from by omega]
  exact ⟨h1, of_decide_eq_true h2⟩
 ·rintro ⟨h1, h2⟩
  exact ⟨i, h1, decide_eq_true h2, rfl⟩
theorem xx_ {w : List Int} {more : Nat} (h : (eraN w w.length).length + more ≤ 6) : Srch w (eraN w w.length) more 0 := by
 refine ⟨by rw [hi_]; exact jj_ _ _, fun x hx => ?_, fun i hi h0 => (pn_ w i).2 ⟨hi, h0⟩, fun i _ hi hm => ((pn_ w i).1 hm).2, h⟩
 rw [hi_] at hx
 obtain ⟨j, h1, _, rfl⟩ := (lg_ _).1 hx
 omega
theorem ox_ (w : List Int) (hl : w.length ≤ 300) (k : Nat) (hk : 100 ≤ k) : ke_.f k w = some (decS w) := by
 unfold ke_.f
 simp only [li_.f, Option.bind_some]
 by_cases hw : isWord w (-1) = true
 ·rw [if_pos hw]
  obtain ⟨w1, w2, w3⟩ := me_ hw
  unfold up_.f
  rw [if_pos (by omega)]
  simp only [Option.bind_some]
  by_cases h6 : ((eraN w w.length).length : Int) > 6
  ·rw [if_pos h6, ol_ hw (fun c hc => by have := hc.near; omega)]
  ·rw [if_neg h6]
   obtain ⟨more, hm⟩ : ∃ more, more = (6 - (eraN w w.length).length) / 2 := ⟨_, rfl⟩
   have e1 : wrap64 (Int.tdiv (wrap64 (6 - ((eraN w w.length).length : Int))) 2) = (more : Int) := by
    have : wrap64 (6 - ((eraN w w.length).length : Int)) = ((6 - (eraN w w.length).length : Nat) : Int) := by unfold wrap64; omega
    rw [this, show Int.tdiv ((6 - (eraN w w.length).length : Nat) : Int) 2 = (((6 - (eraN w w.length).length) / 2 : Nat) : Int) from by simp [Int.tdiv_eq_ediv]]
    rw [← hm]; unfold wrap64; omega
   obtain ⟨r, hr, hS, hC⟩ := ga1_ hw more (eraN w w.length) 0 k (xx_ (by omega)) (by omega)
   rw [e1, show (0 : Int) = ((0 : Nat) : Int) from rfl, hr]
   simp only [Option.bind_some]
   by_cases h2 : r.2 = true
   ·rw [if_pos h2]
    obtain ⟨a, b, c⟩ := hS h2
    have hn : Near w r.1 := ⟨a, b, by rw [lu_]; omega⟩
    rw [ak_ hw hn]
    unfold uk_.f
    rw [if_pos ⟨by omega, by omega, by omega⟩, b]
    rfl
   ·rw [if_neg h2, ol_ hw fun c hc => h2 (hC c hc.code hc.len (by rw [← lu_]; have := hc.near; omega) (fun i _ _ => Nat.zero_le _))]
    rfl
 ·rw [if_neg hw, zr_ hw]
end Go.Proofs.Ytpkhgapifnjbeaa.G
end
section
namespace Go.Proofs.Ytpkhgapifnjbeaa.G
set_option linter.unusedVariables false
set_option linter.unusedSimpArgs false
open Go.RowKit Go.Proofs.Ytpkhgapifnjbeaa.Rs
theorem ul_ (n : Nat) (f : Nat → GF) : gsum (n + 1) f = f 0 + gsum n (fun k => f (k + 1)) := by
 induction n with
 | zero => show gsum 0 f + f 0 = f 0 + 0; rw [GF.add_zero]; exact GF.zero_add _
 | succ n ih =>
  show gsum (n + 1) f + f (n + 1) = f 0 + (gsum n (fun k => f (k + 1)) + f (n + 1))
  rw [ih, GF.add_assoc]
theorem tl_ (n : Nat) (c : GF) (f : Nat → GF) : gsum n (fun i => f i * c) = gsum n f * c := by
 rw [GF.mul_comm, ← ci_]
 exact vd_ fun i _ => GF.mul_comm _ _
def pc (X : Nat → GF) : Nat → Nat → GF
 | 0, k => if k = 0 then 1 else 0
 | i + 1, k => pc X i k + (if k = 0 then 0 else pc X i (k - 1)) * X i
def prodX (X : Nat → GF) (z : GF) : Nat → GF
 | 0 => 1
 | i + 1 => prodX X z i * (z + X i)
theorem pc_hi (X : Nat → GF) : ∀ i k, i < k → pc X i k = 0 := by
 intro i
 induction i with
 | zero => intro k hk; simp only [pc]; rw [if_neg (by omega)]
 | succ i ih =>
  intro k hk
  simp only [pc]
  rw [ih k (by omega), if_neg (by omega), ih (k - 1) (by omega), GF.zero_mul, GF.add_zero]
theorem sp_ (X : Nat → GF) (i : Nat) : pc X i 0 = 1 := by
 induction i with
 | zero => simp [pc]
 | succ i ih => simp only [pc]; rw [ih, if_pos trivial, GF.zero_mul, GF.add_zero]
theorem xz_ (z : GF) (a : Nat) : GF.pw z (a + 1) = GF.pw z a * z := rfl
theorem ie1_ (X : Nat → GF) (z : GF) (i : Nat) : gsum (i + 1) (fun k => pc X i k * GF.pw z (i - k)) = prodX X z i := by
 induction i with
 | zero => simp only [gsum, pc, prodX]; rw [if_pos trivial]; exact (GF.zero_add _).trans (GF.mul_one _)
 | succ i ih =>
  have h1 : gsum (i + 2) (fun k => pc X (i + 1) k * GF.pw z (i + 1 - k)) = gsum (i + 2) (fun k => pc X i k * GF.pw z (i + 1 - k)) + gsum (i + 2) (fun k => (if k = 0 then 0 else pc X i (k - 1)) * X i * GF.pw z (i + 1 - k)) := by
   rw [← uj_]
   exact vd_ fun k hk => by simp only [pc]; rw [GF.add_mul]
  have h2 : gsum (i + 2) (fun k => pc X i k * GF.pw z (i + 1 - k)) = prodX X z i * z := by
   show gsum (i + 1) _ + pc X i (i + 1) * _ = _
   rw [pc_hi X i (i + 1) (by omega), GF.zero_mul, GF.add_zero, ← ih, ← tl_]
   exact vd_ fun k hk => by rw [show i + 1 - k = (i - k) + 1 from by omega, xz_, GF.mul_assoc]
  have h3 : gsum (i + 2) (fun k => (if k = 0 then 0 else pc X i (k - 1)) * X i * GF.pw z (i + 1 - k)) = prodX X z i * X i := by
   rw [ul_ (i + 1), if_pos rfl, GF.zero_mul, GF.zero_mul, GF.zero_add, ← ih, ← tl_]
   refine vd_ fun k hk => ?_
   rw [if_neg (by omega), Nat.add_sub_cancel, show i + 1 - (k + 1) = i - k from by omega]
   ac_rfl
  rw [h1, h2, h3]
  simp only [prodX]
  rw [GF.mul_add]
theorem xl_ (X : Nat → GF) (z : GF) (i : Nat) : prodX X z i = 0 ↔ ∃ t, t < i ∧ z = X t := by
 induction i with
 | zero => simp only [prodX]; exact ⟨fun h => absurd h GF.one_ne_zero, fun ⟨t, h, _⟩ => by omega⟩
 | succ i ih =>
  simp only [prodX]
  constructor
  ·intro h
   rcases GF.mul_eq_zero _ _ h with h | h
   ·obtain ⟨t, h1, h2⟩ := ih.1 h
    exact ⟨t, by omega, h2⟩
   ·exact ⟨i, by omega, GF.bj_ h⟩
  ·rintro ⟨t, h1, h2⟩
   rcases Nat.lt_or_ge t i with h | h
   ·rw [ih.2 ⟨t, h, h2⟩, GF.zero_mul]
   ·rw [show t = i from by omega] at h2
    rw [h2, GF.sg_, GF.mul_zero]
theorem roots (m : Nat) (Z : Nat → GF) (hz : ∀ t, t < m → Z t ≠ 0) (hi : ∀ i j, i < m → j < m → Z i = Z j → i = j) (d : Nat → GF) (h : ∀ t, t < m → gsum m (fun k => d k * GF.pw (Z t) k) = 0) : ∀ k, k < m → d k = 0 := by
 intro k0 hk0
 obtain ⟨M, hM⟩ : ∃ M : Nat → Nat → Int, M = fun j t => if t < m then ofG (GF.pw (Z t) j) else ofG (if j = k0 then 1 else 0) := ⟨_, rfl⟩
 have hMt : ∀ j t, t < m → toG (M j t) = GF.pw (Z t) j := fun j t ht => by rw [hM]; simp only; rw [if_pos ht, yf_]
 have hMm : ∀ j, toG (M j m) = if j = k0 then 1 else 0 := fun j => by rw [hM]; simp only; rw [if_neg (by omega), yf_]
 have he : ElM m (m + 1) M := fun i k _ _ => by rw [hM]; simp only; split <;> exact jg_ _
 have hI : Indep m m M := fun y hy => by
  refine vand m Z y 0 hz hi fun j hj => ?_
  rw [← hy j hj]
  exact vd_ fun t ht => by rw [hMt j t ht, Nat.zero_add]; exact GF.mul_comm _ _
 obtain ⟨M', _, _, _, _, hs⟩ := op_ he hI
 have hy := (hs (fun i => toG (M' i m))).2 fun i hi => by rw [if_pos hi]
 obtain ⟨y, hyd⟩ : ∃ y : Nat → GF, y = fun i => toG (M' i m) := ⟨_, rfl⟩
 rw [← hyd] at hy
 have e1 : gsum m (fun t => y t * gsum m (fun k => d k * GF.pw (Z t) k)) = 0 := by
  rw [vd_ (g := fun _ => 0) (fun t ht => by rw [h t ht, GF.mul_zero]), dj_]
 have e2 : gsum m (fun t => y t * gsum m (fun k => d k * GF.pw (Z t) k)) = gsum m (fun k => d k * gsum m (fun t => toG (M k t) * y t)) := by
  rw [vd_ (g := fun t => gsum m (fun k => y t * (d k * GF.pw (Z t) k))) (fun t ht => (ci_ _ _ _).symm), xm_]
  refine vd_ fun k hk => ?_
  rw [← ci_]
  exact vd_ fun t ht => by rw [hMt k t ht]; ac_rfl
 rw [e2, mk_ m _ k0 hk0 (fun k hk hne => by rw [hy k hk, hMm k, if_neg hne, GF.mul_zero]), hy k0 hk0, hMm k0, if_pos rfl, GF.mul_one] at e1
 exact e1
end Go.Proofs.Ytpkhgapifnjbeaa.G
end
section
namespace Go.Proofs.Ytpkhgapifnjbeaa.G
set_option linter.unusedVariables false
set_option linter.unusedSimpArgs false
open Go.RowKit Go.Proofs.YtpkhgapifnjbeaaW.PrintWords Go.Proofs.YtpkhgapifnjbeaaW.PrintLast Go.Proofs.YtpkhgapifnjbeaaW.PrintMore Go.Proofs.Ytpkhgapifnjbeaa.Rs
open Go.Proofs.Ytpkhgapifnjbeaa.L
theorem an_ (n : Nat) (f : Nat → Int) : ((List.range n).map f).length = n := by simp
theorem rt_ (n j : Nat) (f g : Nat → Int) (x : Int) (hx : j < n → g j = x) (hg : ∀ i, i < n → i ≠ j → g i = f i) : ((List.range n).map f).set j x = (List.range n).map g := by
 apply List.ext_getElem
 ·simp
 ·intro i h1 h2
  rw [List.getElem_set]
  simp only [List.getElem_map, List.getElem_range]
  simp only [List.length_map, List.length_range] at h2
  by_cases e : j = i
  ·subst e; rw [if_pos rfl, hx h2]
  ·rw [if_neg e, hg i h2 (fun q => e q.symm)]
def sumI (n : Nat) (L : List Int) (i : Nat) : Nat → Int
 | 0 => 1
 | k + 1 => xorI (sumI n L i k) (mulI (L.getD k 0) (atI n (i : Int) (-(k : Int) - 1)))
def locP (l L : List Int) (i : Nat) : Bool := decide (l.getD i 0 ≠ -1) && decide (sumI l.length L i L.length = 0)
theorem pb1_ (P : Nat → Bool) (m : Nat) : (posN P m).length ≤ m := by
 induction m with
 | zero => exact Nat.le_refl _
 | succ m ih => simp only [posN, List.length_append]; split <;> simp <;> omega
theorem loc_l7 (l L : List Int) (n i : Nat) (hL : L.length ≤ 10) (hi : i < 100) (r : List Int × Bool) (K : Nat)
  (hc : ∀ k, K ≤ k → wa_.l6 k l (n : Int) L (posN (locP l L) (i + 1)) l (l.length : Int) ((i + 1 : Nat) : Int) = some r) :
  ∀ (d q k : Nat), q + d = L.length → K + d < k → wa_.l7 k l (n : Int) L (posN (locP l L) i) (i : Int) (l.getD i 0) (sumI l.length L i q) l (l.length : Int) (i : Int) L (L.length : Int) (q : Int) = some r := by
 have hs : wrap64 ((i : Int) + 1) = ((i + 1 : Nat) : Int) := by unfold wrap64; omega
 intro d
 induction d with
 | zero =>
  intro q k hq hk
  obtain ⟨k, rfl⟩ : ∃ m, k = m + 1 := ⟨k - 1, by omega⟩
  obtain rfl : q = L.length := by omega
  have hcc := hc k (by omega)
  simp only [posN] at hcc
  have hpl := pb1_ (locP l L) i
  simp only [wa_.l7]
  rw [if_neg (by omega), hs]
  by_cases h1 : l.getD i 0 = -1
  ·rw [if_pos h1]
   rwa [if_neg (by unfold locP; simp only [Bool.and_eq_true, decide_eq_true_eq]; exact fun h => h.1 h1), List.append_nil] at hcc
  ·rw [if_neg h1]
   by_cases h2 : sumI l.length L i L.length = 0
   ·rw [if_pos h2, if_pos (by omega)]
    rwa [if_pos (by unfold locP; simp only [Bool.and_eq_true, decide_eq_true_eq]; exact ⟨h1, h2⟩)] at hcc
   ·rw [if_neg h2]
    rwa [if_neg (by unfold locP; simp only [Bool.and_eq_true, decide_eq_true_eq]; exact fun h => h2 h.2), List.append_nil] at hcc
 | succ d ih =>
  intro q k hq hk
  obtain ⟨k, rfl⟩ : ∃ m, k = m + 1 := ⟨k - 1, by omega⟩
  have hs2 : wrap64 ((q : Int) + 1) = ((q + 1 : Nat) : Int) := by unfold wrap64; omega
  have hs3 : wrap64 (wrap64 (-(q : Int)) - 1) = -(q : Int) - 1 := by unfold wrap64; omega
  simp only [wa_.l7]
  rw [if_pos (by omega), if_pos (by omega), if_pos (by omega), zd_, hs2, hs3]
  simp only [g_at.f, uh_.f, ii_.f, Option.bind_some]
  exact ih (q + 1) k (by omega) (by omega)
theorem loc_l6 (l L : List Int) (n : Nat) (hL : L.length ≤ 10) (hl : l.length ≤ 15) : ∀ (d i k : Nat), i + d = l.length → d * 20 + 1 < k → wa_.l6 k l (n : Int) L (posN (locP l L) i) l (l.length : Int) (i : Int) = some (posN (locP l L) l.length, (((posN (locP l L) l.length).length : Int) == (n : Int))) := by
 intro d
 induction d with
 | zero =>
  intro i k hi hk
  obtain ⟨k, rfl⟩ : ∃ m, k = m + 1 := ⟨k - 1, by omega⟩
  obtain rfl : i = l.length := by omega
  simp only [wa_.l6]
  rw [if_neg (by omega)]
 | succ d ih =>
  intro i k hi hk
  obtain ⟨k, rfl⟩ : ∃ m, k = m + 1 := ⟨k - 1, by omega⟩
  simp only [wa_.l6]
  rw [if_pos (by omega), if_pos (by omega), if_pos (by omega), zd_]
  exact loc_l7 l L n i hL (by omega) _ (d * 20 + 2) (fun k hk => ih (i + 1) k (by omega) (by omega)) L.length 0 k (by omega) (by omega)
def rowL (x : List Int) (n j : Nat) : List Int := (List.range n).map fun k => x.getD (j + n - 1 - k) 0
def matL (x : List Int) (n : Nat) : Nat → List (List Int)
 | 0 => []
 | j + 1 => matL x n j ++ [rowL x n j ++ [x.getD (j + n) 0]]
theorem di_ (x : List Int) (n j : Nat) : (matL x n j).length = j := by
 induction j with
 | zero => rfl
 | succ j ih => simp [matL, ih]
theorem is_ (x : List Int) (n : Nat) : ∀ (j i : Nat), i < j → (matL x n j).getD i [] = rowL x n i ++ [x.getD (i + n) 0] := by
 intro j
 induction j with
 | zero => intro i hi; omega
 | succ j ih =>
  intro i hi
  simp only [matL]
  rcases Nat.lt_or_ge i j with h | h
  ·rw [List.getD_eq_getElem?_getD, List.getElem?_append_left (by rw [di_]; exact h), ← List.getD_eq_getElem?_getD, ih i h]
  ·obtain rfl : i = j := by omega
   rw [List.getD_eq_getElem?_getD, List.getElem?_append_right (by rw [di_]; exact Nat.le_refl _), di_]
   simp
theorem lz_ (x : List Int) (n R i k : Nat) (hi : i < R) : kg_ (matL x n R) i k = if k < n then x.getD (i + n - 1 - k) 0 else if k = n then x.getD (i + n) 0 else 0 := by
 unfold kg_
 rw [is_ x n R i hi]
 by_cases h1 : k < n
 ·rw [if_pos h1, List.getD_eq_getElem?_getD, List.getElem?_append_left (by simpa [rowL] using h1)]
  unfold rowL
  rw [List.getElem?_map, List.getElem?_range h1]; rfl
 ·rw [if_neg h1]
  by_cases h2 : k = n
  ·rw [if_pos h2, List.getD_eq_getElem?_getD, List.getElem?_append_right (by simp [rowL]; omega)]
   simp [rowL, h2]
  ·rw [if_neg h2, List.getD_eq_getElem?_getD, List.getElem?_eq_none (by simp [rowL]; omega)]; rfl
theorem re1_ (x : List Int) (n R : Nat) (hR : 1 ≤ R) (hR2 : R ≤ 100) (hn : n ≤ 100) : ti_.f (matL x n R) = some (solR R n (kg_ (matL x n R))) := by
 have hrow : ∀ y ∈ matL x n R, y.length = n + 1 := by
  intro y hy
  obtain ⟨i, hi, rfl⟩ := List.mem_iff_getElem.1 hy
  have := is_ x n R i (by rwa [di_] at hi)
  rw [List.getD_eq_getElem?_getD, List.getElem?_eq_getElem hi] at this
  simp only [Option.getD_some] at this
  rw [this]; simp [rowL]
 have hh : ((matL x n R).headD []).length = n + 1 := by
  have h0 := is_ x n R 0 (by omega)
  rw [List.headD_eq_head?_getD, List.head?_eq_getElem?, ← List.getD_eq_getElem?_getD, h0]
  simp [rowL]
 unfold ti_.f
 rw [hh, if_pos (by unfold jr_; rw [di_]; simp only [Bool.and_eq_true, decide_eq_true_eq, List.all_eq_true]; exact ⟨by omega, hrow⟩), di_, Nat.add_sub_cancel]
def ht_ (l x : List Int) (n R : Nat) : List Int × Bool :=
 if (solR R n (kg_ (matL x n R))).2 = true then (posN (locP l (solR R n (kg_ (matL x n R))).1) l.length, (((posN (locP l (solR R n (kg_ (matL x n R))).1) l.length).length : Int) == (n : Int))) else ([], false)
theorem loc_l5 (l x : List Int) (n R j : Nat) (hx : x.length ≤ 6) (hn : n ≤ 6) (hj : j + n < x.length) (r : List Int × Bool) (K : Nat)
  (hc : ∀ k, K ≤ k → wa_.l4 k l (n : Int) x (matL x n (j + 1)) (R : Int) ((j + 1 : Nat) : Int) = some r) :
  ∀ (d q k : Nat), q + d = n → K + d < k → wa_.l5 k l (n : Int) x (matL x n j) (j : Int) ((List.range q).map fun k => x.getD (j + n - 1 - k) 0) ((q + 1 : Nat) : Int) (R : Int) (j : Int) = some r := by
 have hs : wrap64 ((j : Int) + 1) = ((j + 1 : Nat) : Int) := by unfold wrap64; omega
 have hs1 : wrap64 ((j : Int) + (n : Int)) = ((j + n : Nat) : Int) := by unfold wrap64; omega
 intro d
 induction d with
 | zero =>
  intro q k hq hk
  obtain ⟨k, rfl⟩ : ∃ m, k = m + 1 := ⟨k - 1, by omega⟩
  obtain rfl : q = n := by omega
  simp only [wa_.l5]
  rw [if_neg (by omega), hs1, if_pos (by omega), if_pos (by omega), if_pos (by rw [an_]; omega), if_pos (by rw [di_]; omega), hs, zd_]
  exact hc k (by omega)
 | succ d ih =>
  intro q k hq hk
  obtain ⟨k, rfl⟩ : ∃ m, k = m + 1 := ⟨k - 1, by omega⟩
  have hs2 : wrap64 (((q + 1 : Nat) : Int) + 1) = ((q + 1 + 1 : Nat) : Int) := by unfold wrap64; omega
  have hs3 : wrap64 (((j + n : Nat) : Int) - ((q + 1 : Nat) : Int)) = ((j + n - 1 - q : Nat) : Int) := by unfold wrap64; omega
  simp only [wa_.l5]
  rw [if_pos (by omega), hs1, hs3, if_pos (by omega), if_pos (by omega), if_pos (by rw [an_]; omega), hs2, zd_]
  have := ih (q + 1) k (by omega) (by omega)
  rwa [List.range_succ, List.map_append] at this
theorem loc_l4 (l x : List Int) (n R : Nat) (hl : l.length ≤ 15) (hx : x.length ≤ 6) (hn : n ≤ 6) (hR : 1 ≤ R) (hRx : R + n = x.length) : ∀ (d j k : Nat), j + d = R → 400 + d * 20 < k → wa_.l4 k l (n : Int) x (matL x n j) (R : Int) (j : Int) = some (ht_ l x n R) := by
 intro d
 induction d with
 | zero =>
  intro j k hj hk
  obtain ⟨k, rfl⟩ : ∃ m, k = m + 1 := ⟨k - 1, by omega⟩
  obtain rfl : j = R := by omega
  simp only [wa_.l4]
  rw [if_neg (by omega), re1_ x n j hR (by omega) (by omega)]
  simp only [Option.bind_some]
  unfold ht_
  by_cases h2 : (solR j n (kg_ (matL x n j))).2 = true
  ·rw [if_pos h2, if_pos h2]
   exact loc_l6 l _ n (by rw [os_ h2]; omega) hl l.length 0 k (by omega) (by omega)
  ·rw [if_neg h2, if_neg h2]
 | succ d ih =>
  intro j k hj hk
  obtain ⟨k, rfl⟩ : ∃ m, k = m + 1 := ⟨k - 1, by omega⟩
  simp only [wa_.l4]
  rw [if_pos (by omega)]
  exact loc_l5 l x n R j hx hn (by omega) _ (400 + d * 20 + 1) (fun k hk => ih (j + 1) k (by omega) (by omega)) n 0 k (by omega) (by omega)
end Go.Proofs.Ytpkhgapifnjbeaa.G
end
section
namespace Go.Proofs.Ytpkhgapifnjbeaa.G
set_option linter.unusedVariables false
set_option linter.unusedSimpArgs false
open Go.RowKit Go.Proofs.YtpkhgapifnjbeaaW.PrintWords Go.Proofs.YtpkhgapifnjbeaaW.PrintLast Go.Proofs.YtpkhgapifnjbeaaW.PrintMore Go.Proofs.Ytpkhgapifnjbeaa.Rs
open Go.Proofs.Ytpkhgapifnjbeaa.L
theorem wrap_add (a b : Nat) (h : a + b < 1000000) : wrap64 ((a : Int) + (b : Int)) = ((a + b : Nat) : Int) := by unfold wrap64; omega
theorem ow_ (a b : Nat) (h : b ≤ a) (h2 : a < 1000000) : wrap64 ((a : Int) - (b : Int)) = ((a - b : Nat) : Int) := by unfold wrap64; omega
def xj_ (X : Nat → GF) (m : Nat) : List Int := (List.range (m + 1)).map fun k => ofG (pc X m k)
def mixP (X : Nat → GF) (i c : Nat) : List Int := (List.range (i + 2)).map fun j => ofG (if c < j then pc X (i + 1) j else pc X i j)
def vt_ (l ps : List Int) (j k : Nat) : GF := gsum k (fun k => pc (XP l.length ps) ps.length k * psum l (j + ps.length - k + 1) l.length)
theorem tx_ (l ps : List Int) (j k : Nat) : vt_ l ps j (k + 1) = vt_ l ps j k + pc (XP l.length ps) ps.length k * psum l (j + ps.length - k + 1) l.length := rfl
theorem ir_ (l ps : List Int) (j : Nat) : ofG (vt_ l ps j 0) = 0 := rfl
def nq_ (l ps : List Int) (j : Nat) : GF := vt_ l ps j (ps.length + 1)
def km_ (l ps : List Int) : List Int := (List.range (6 - ps.length)).map fun j => ofG (nq_ l ps j)
def locR (l ps : List Int) (n : Nat) : List Int × Bool := if n = 0 then ([], true) else ht_ l (km_ l ps) n (6 - ps.length - n)
theorem ja1_ (l : List Int) (m : Nat) (hm : m < 6) : (synI l).getD m 0 = ofG (psum l (m + 1) l.length) := by
 unfold synI; rw [dh_ 6 m _ hm]
theorem pt_ (x : GF) : GF.pw x 1 = x := by show GF.pw x 0 * x = x; exact GF.one_mul x
theorem loc_l1 (l ps : List Int) (n i : Nat) (hl : l.length ≤ 15) (hp : ag_ l.length ps) (hi : i < ps.length) (r : List Int × Bool) (K : Nat)
  (hc : ∀ k, K ≤ k → wa_.l0 k l ps (n : Int) (xj_ (XP l.length ps) (i + 1)) ps (ps.length : Int) ((i + 1 : Nat) : Int) = some r) :
  ∀ (c k : Nat), c ≤ i + 1 → K + c < k → wa_.l1 k l ps (n : Int) (mixP (XP l.length ps) i c) (ps.getD i 0) (c : Int) ps (ps.length : Int) (i : Int) = some r := by
 obtain ⟨hp0, hp1⟩ := hp.2 i hi
 have h6 := hp.1
 have hs : wrap64 ((i : Int) + 1) = ((i + 1 : Nat) : Int) := by unfold wrap64; omega
 intro c
 induction c with
 | zero =>
  intro k hc' hk
  obtain ⟨k, rfl⟩ : ∃ m, k = m + 1 := ⟨k - 1, by omega⟩
  simp only [wa_.l1]
  rw [if_neg (by omega), hs]
  have e : mixP (XP l.length ps) i 0 = xj_ (XP l.length ps) (i + 1) := by
   unfold mixP xj_
   refine List.map_congr_left fun j hj => ?_
   by_cases h0 : 0 < j
   ·rw [if_pos h0]
   ·rw [if_neg h0, show j = 0 from by omega, sp_, sp_]
  rw [e]
  exact hc k (by omega)
 | succ c ih =>
  intro k hc' hk
  obtain ⟨k, rfl⟩ : ∃ m, k = m + 1 := ⟨k - 1, by omega⟩
  have hs2 : wrap64 (((c + 1 : Nat) : Int) - 1) = (c : Int) := by unfold wrap64; omega
  have hlen : (mixP (XP l.length ps) i (c + 1)).length = i + 2 := by simp [mixP]
  simp only [wa_.l1]
  rw [if_pos (by omega), if_pos (by omega), if_pos (by rw [hlen]; omega), hs2, if_pos (by omega), if_pos (by rw [hlen]; omega), zd_, zd_]
  simp only [g_at.f, uh_.f, ii_.f, Option.bind_some]
  have ha : atI l.length (ps.getD i 0) 1 = ofG (XP l.length ps i) := by
   have := rv_ (n := l.length) (by omega) hp0 hp1 1 (by omega)
   rw [pt_] at this
   exact this
  have e1 : (mixP (XP l.length ps) i (c + 1)).getD c 0 = ofG (pc (XP l.length ps) i c) := by
   unfold mixP; rw [dh_ _ c _ (by omega), if_neg (by omega)]
  have e2 : (mixP (XP l.length ps) i (c + 1)).getD (c + 1) 0 = ofG (pc (XP l.length ps) i (c + 1)) := by
   unfold mixP; rw [dh_ _ (c + 1) _ (by omega), if_neg (by omega)]
  rw [ha, e1, e2, dl_, zj_, Int.toNat_natCast]
  have e3 : (mixP (XP l.length ps) i (c + 1)).set (c + 1) (ofG (pc (XP l.length ps) i (c + 1) + pc (XP l.length ps) i c * XP l.length ps i)) = mixP (XP l.length ps) i c := by
   unfold mixP
   refine rt_ _ _ _ _ _ (fun _ => ?_) (fun j hj hne => ?_)
   ·rw [if_pos (by omega)]
    simp only [pc]
    rw [if_neg (by omega), Nat.add_sub_cancel]
   ·by_cases h : c < j
    ·rw [if_pos h, if_pos (by omega)]
    ·rw [if_neg h, if_neg (by omega)]
  rw [e3]
  exact ih k (by omega) (by omega)
def hl_ (l ps : List Int) (j k : Nat) : List Int := (List.range (6 - ps.length)).map fun t => if t < j then ofG (nq_ l ps t) else if t = j then ofG (vt_ l ps j k) else 0
theorem loc_l3 (l ps : List Int) (n j : Nat) (hp : ag_ l.length ps) (hj : j < 6 - ps.length) (r : List Int × Bool) (K : Nat)
  (hc : ∀ k, K ≤ k → wa_.l2 k l ps (n : Int) (xj_ (XP l.length ps) ps.length) (synI l) (hl_ l ps (j + 1) 0) ((6 - ps.length : Nat) : Int) ((j + 1 : Nat) : Int) = some r) :
  ∀ (d q k : Nat), q + d = ps.length + 1 → K + d < k → wa_.l3 k l ps (n : Int) (xj_ (XP l.length ps) ps.length) (synI l) (hl_ l ps j q) (j : Int) ((6 - ps.length : Nat) : Int) (j : Int) (xj_ (XP l.length ps) ps.length) ((ps.length + 1 : Nat) : Int) (q : Int) = some r := by
 have h6 := hp.1
 have hs : wrap64 ((j : Int) + 1) = ((j + 1 : Nat) : Int) := by unfold wrap64; omega
 have hpl := Lib.hid (show (xj_ (XP l.length ps) ps.length).length = ps.length + 1 from by simp [xj_])
 have hsl := Lib.hid (show (synI l).length = 6 from by simp [synI])
 intro d
 induction d with
 | zero =>
  intro q k hq hk
  obtain ⟨k, rfl⟩ : ∃ m, k = m + 1 := ⟨k - 1, by omega⟩
  obtain rfl : q = ps.length + 1 := by omega
  simp only [wa_.l3]
  rw [if_neg (by omega), hs]
  have e : hl_ l ps j (ps.length + 1) = hl_ l ps (j + 1) 0 := by
   unfold hl_
   refine List.map_congr_left fun t ht => ?_
   by_cases h1 : t < j
   ·rw [if_pos h1, if_pos (by omega)]
   ·rw [if_neg h1]
    by_cases h2 : t = j
    ·rw [if_pos h2, if_pos (by omega), h2, nq_]
    ·rw [if_neg h2, if_neg (by omega)]
     by_cases h3 : t = j + 1
     ·rw [if_pos h3, ir_]
     ·rw [if_neg h3]
  rw [e]
  exact hc k (by omega)
 | succ d ih =>
  intro q k hq hk
  obtain ⟨k, rfl⟩ : ∃ m, k = m + 1 := ⟨k - 1, by omega⟩
  have hs2 : wrap64 ((q : Int) + 1) = ((q + 1 : Nat) : Int) := by unfold wrap64; omega
  have hjo : j + ps.length ≤ 20 := by omega
  have hqo : q ≤ j + ps.length := by omega
  have hs4 : wrap64 ((j : Int) + (ps.length : Int)) = ((j + ps.length : Nat) : Int) := wrap_add j ps.length (Nat.lt_of_le_of_lt hjo (by decide))
  have hs3 : wrap64 (((j + ps.length : Nat) : Int) - (q : Int)) = ((j + ps.length - q : Nat) : Int) := ow_ (j + ps.length) q hqo (Nat.lt_of_le_of_lt hjo (by decide))
  have hq5 : j + ps.length - q < 6 := by omega
  have hrl := Lib.hid (show (hl_ l ps j q).length = 6 - ps.length from by simp [hl_])
  simp only [wa_.l3]
  rw [if_pos (by omega), if_pos (by omega), if_pos (by rw [hpl.out]; omega), if_pos (by omega), if_pos (by rw [hrl.out]; omega), hs4, hs3, if_pos (Int.natCast_nonneg _), if_pos (by rw [hsl.out]; omega), zd_, zd_, zd_, hs2]
  simp only [uh_.f, ii_.f, Option.bind_some]
  have e1 : (xj_ (XP l.length ps) ps.length).getD q 0 = ofG (pc (XP l.length ps) ps.length q) := by unfold xj_; rw [dh_ _ q _ (by omega)]
  have e2 : (hl_ l ps j q).getD j 0 = ofG (vt_ l ps j q) := by
   unfold hl_; rw [dh_ _ j _ hj, if_neg (by omega), if_pos rfl]
  rw [e1, e2, ja1_ l _ (by omega), dl_, zj_, Int.toNat_natCast]
  have e3 : (hl_ l ps j q).set j (ofG (vt_ l ps j q + pc (XP l.length ps) ps.length q * psum l (j + ps.length - q + 1) l.length)) = hl_ l ps j (q + 1) := by
   unfold hl_
   refine rt_ _ _ _ _ _ (fun _ => ?_) (fun t ht hne => ?_)
   ·rw [if_neg (by omega), if_pos rfl, tx_]
   ·by_cases h1 : t < j
    ·rw [if_pos h1, if_pos h1]
    ·rw [if_neg h1, if_neg h1, if_neg hne, if_neg hne]
  rw [e3]
  exact ih (q + 1) k (by omega) (by omega)
theorem loc_l2 (l ps : List Int) (n : Nat) (hl : l.length ≤ 15) (hp : ag_ l.length ps) (hn : ps.length + 2 * n ≤ 6) : ∀ (d j k : Nat), j + d = 6 - ps.length → 550 + d * 10 < k → wa_.l2 k l ps (n : Int) (xj_ (XP l.length ps) ps.length) (synI l) (hl_ l ps j 0) ((6 - ps.length : Nat) : Int) (j : Int) = some (locR l ps n) := by
 have h6 := hp.1
 intro d
 induction d with
 | zero =>
  intro j k hj hk
  obtain ⟨k, rfl⟩ : ∃ m, k = m + 1 := ⟨k - 1, by omega⟩
  obtain rfl : j = 6 - ps.length := by omega
  simp only [wa_.l2]
  rw [if_neg (by omega)]
  unfold locR
  by_cases h0 : n = 0
  ·rw [if_pos (by omega), if_pos h0]
  ·rw [if_neg (by omega), if_neg h0]
   have e : hl_ l ps (6 - ps.length) 0 = km_ l ps := by
    unfold hl_ km_
    refine List.map_congr_left fun t ht => ?_
    rw [if_pos (by simpa using ht)]
   have hrl := Lib.hid (show (km_ l ps).length = 6 - ps.length from by simp [km_])
   have hs : wrap64 (((km_ l ps).length : Int) - (n : Int)) = ((6 - ps.length - n : Nat) : Int) := by rw [hrl.out]; unfold wrap64; omega
   rw [e, hs]
   exact loc_l4 l (km_ l ps) n (6 - ps.length - n) hl (by rw [hrl.out]; omega) (by omega) (by omega) (by rw [hrl.out]; omega) (6 - ps.length - n) 0 k (by omega) (by omega)
 | succ d ih =>
  intro j k hj hk
  obtain ⟨k, rfl⟩ : ∃ m, k = m + 1 := ⟨k - 1, by omega⟩
  have hpl := Lib.hid (show (xj_ (XP l.length ps) ps.length).length = ps.length + 1 from by simp [xj_])
  simp only [wa_.l2]
  rw [if_pos (by omega), hpl.out]
  exact loc_l3 l ps n j hp (by omega) _ (550 + d * 10 + 1) (fun k hk => ih (j + 1) k (by omega) (by omega)) (ps.length + 1) 0 k (by omega) (by omega)
theorem loc_l0 (l ps : List Int) (n : Nat) (hl : l.length ≤ 15) (hp : ag_ l.length ps) (hn : ps.length + 2 * n ≤ 6) : ∀ (d i k : Nat), i + d = ps.length → 620 + d * 10 < k → wa_.l0 k l ps (n : Int) (xj_ (XP l.length ps) i) ps (ps.length : Int) (i : Int) = some (locR l ps n) := by
 have h6 := hp.1
 intro d
 induction d with
 | zero =>
  intro i k hi hk
  obtain ⟨k, rfl⟩ : ∃ m, k = m + 1 := ⟨k - 1, by omega⟩
  obtain rfl : i = ps.length := by omega
  have hs : wrap64 (6 - (ps.length : Int)) = ((6 - ps.length : Nat) : Int) := by unfold wrap64; omega
  simp only [wa_.l0]
  rw [if_neg (by omega)]
  unfold yl_.f
  rw [if_pos hl]
  simp only [Option.bind_some]
  rw [hs, if_pos (by omega), if_pos (by omega), Int.toNat_natCast]
  have e : List.replicate (6 - ps.length) (0 : Int) = hl_ l ps 0 0 := by
   unfold hl_
   apply List.ext_getElem
   ·simp
   ·intro t h1 h2
    simp only [List.getElem_replicate, List.getElem_map, List.getElem_range]
    rw [if_neg (by omega)]
    by_cases h3 : t = 0
    ·rw [if_pos h3, ir_]
    ·rw [if_neg h3]
  rw [List.length_replicate, e]
  exact loc_l2 l ps n hl hp hn (6 - ps.length) 0 k (by omega) (by omega)
 | succ d ih =>
  intro i k hi hk
  obtain ⟨k, rfl⟩ : ∃ m, k = m + 1 := ⟨k - 1, by omega⟩
  have hpl := Lib.hid (show (xj_ (XP l.length ps) i).length = i + 1 from by simp [xj_])
  simp only [wa_.l0]
  rw [if_pos (by omega), if_pos (by omega), if_pos (by omega), if_pos (by rw [hpl.out]; omega)]
  simp only [Option.bind_some]
  have hs : wrap64 (((xj_ (XP l.length ps) i ++ [0]).length : Int) - 1) = ((i + 1 : Nat) : Int) := by
   rw [List.length_append, hpl.out, List.length_singleton]; unfold wrap64; omega
  have e : xj_ (XP l.length ps) i ++ [0] = mixP (XP l.length ps) i (i + 1) := by
   unfold xj_ mixP
   rw [List.range_succ (n := i + 1), List.map_append]
   congr 1
   ·refine List.map_congr_left fun j hj => ?_
    rw [if_neg (by have := List.mem_range.1 hj; omega)]
   ·simp only [List.map_cons, List.map_nil]
    rw [if_neg (by omega), pc_hi _ _ _ (by omega)]; rfl
  rw [hs, e, zd_]
  exact loc_l1 l ps n i hl hp (by omega) _ (620 + d * 10 + 1) (fun k hk => ih (i + 1) k (by omega) (by omega)) (i + 1) k (Nat.le_refl _) (by omega)
theorem loc_f (l ps : List Int) (n : Nat) (hl : l.length ≤ 15) (hp : ag_ l.length ps) (hn : ps.length + 2 * n ≤ 6) (k : Nat) (hk : 1000 ≤ k) : wa_.f k l ps (n : Int) = some (locR l ps n) := by
 have h6 := hp.1
 unfold wa_.f
 have e : ([1] : List Int) = xj_ (XP l.length ps) 0 := by
  simp only [xj_, List.range_succ, List.range_zero, List.nil_append, List.map_cons, List.map_nil, sp_]; rfl
 rw [e]
 exact loc_l0 l ps n hl hp hn ps.length 0 k (by omega) (by omega)
theorem dx_ (l ps : List Int) (n : Nat) (hl : l.length ≤ 15) (hp : ag_ l.length ps) (hn : ps.length + 2 * n ≤ 6) : nu_.f l ps (n : Int) = some (locR l ps n) := loc_f l ps n hl hp hn 2000 (by omega)
end Go.Proofs.Ytpkhgapifnjbeaa.G
end
section
namespace Go.Proofs.Ytpkhgapifnjbeaa.G
set_option linter.unusedVariables false
set_option linter.unusedSimpArgs false
open Go.RowKit Go.Proofs.Ytpkhgapifnjbeaa.Rs
theorem zw_ (a b : Nat) (f : Nat → GF) : gsum (a + b) f = gsum a f + gsum b (fun k => f (a + k)) := by
 induction b with
 | zero => exact (GF.add_zero _).symm
 | succ b ih =>
  show gsum (a + b) f + f (a + b) = gsum a f + (gsum b (fun k => f (a + k)) + f (a + b))
  rw [ih, GF.add_assoc]
theorem db1_ (n : Nat) (f : Nat → GF) : gsum n (fun k => f (n - 1 - k)) = gsum n f := by
 induction n with
 | zero => rfl
 | succ n ih =>
  rw [ul_]
  show f (n + 1 - 1 - 0) + _ = gsum n f + f n
  rw [GF.add_comm, ← ih, show n + 1 - 1 - 0 = n from by omega]
  congr 1
  exact vd_ fun k hk => by rw [show n + 1 - 1 - (k + 1) = n - 1 - k from by omega]
def errP (w c : List Int) (i : Nat) : Bool := decide (0 ≤ w.getD i 0) && decide (w.getD i 0 ≠ c.getD i 0)
theorem rl_ {w c : List Int} {i : Nat} : errP w c i = true ↔ 0 ≤ w.getD i 0 ∧ w.getD i 0 ≠ c.getD i 0 := by
 unfold errP; simp only [Bool.and_eq_true, decide_eq_true_eq]
def errL (w c : List Int) : List Int := posN (errP w c) w.length
theorem tm_ (w c : List Int) : (errL w c).length = errN w c w.length := (qo_ w c w.length).symm
theorem po_ (w c : List Int) (i : Nat) : (i : Int) ∈ errL w c ↔ i < w.length ∧ errP w c i = true := by
 unfold errL
 rw [lg_]
 constructor
 ·rintro ⟨j, h1, h2, h3⟩
  rw [show i = j from by omega]; exact ⟨h1, h2⟩
 ·rintro ⟨h1, h2⟩; exact ⟨i, h1, h2, rfl⟩
theorem nv_ (n : Nat) (a b : List Int) (k : Nat) (hk : k < a.length) : XP n (a ++ b) k = XP n a k := by
 unfold XP PS
 rw [List.getD_eq_getElem?_getD, List.getElem?_append_left hk, ← List.getD_eq_getElem?_getD]
theorem ov_ (n : Nat) (a b : List Int) (k : Nat) : XP n (a ++ b) (a.length + k) = XP n b k := by
 unfold XP PS
 rw [List.getD_eq_getElem?_getD, List.getElem?_append_right (by omega), Nat.add_sub_cancel_left, ← List.getD_eq_getElem?_getD]
theorem pa1_ (a b : List Int) (k : Nat) : PS (a ++ b) (a.length + k) = PS b k := by
 unfold PS
 rw [List.getD_eq_getElem?_getD, List.getElem?_append_right (by omega), Nat.add_sub_cancel_left, ← List.getD_eq_getElem?_getD]
theorem cd1_ {w c : List Int} (h : (eraN w w.length).length + (errL w c).length ≤ 6) : gf_ w.length (eraN w w.length ++ errL w c) := by
 refine wo_ (by rw [List.length_append]; exact h) (List.nodup_append.2 ⟨by rw [hi_]; exact jj_ _ _, jj_ _ _, fun a ha b hb e => ?_⟩) fun x hx => ?_
 ·obtain ⟨i, h1, h2, rfl⟩ := (lg_ _).1 hb
  rw [e] at ha
  have := ((pn_ w i).1 ha).2
  have := (rl_.1 h2).1
  omega
 ·rcases List.mem_append.1 hx with hx | hx
  ·rw [hi_] at hx
   obtain ⟨i, h1, _, rfl⟩ := (lg_ _).1 hx
   omega
  ·obtain ⟨i, h1, _, rfl⟩ := (lg_ _).1 hx
   omega
theorem us_ {w c : List Int} (hl : c.length = w.length) : ∀ i, i < w.length → (∀ k, k < (eraN w w.length ++ errL w c).length → PS (eraN w w.length ++ errL w c) k ≠ i) → c.getD i 0 = w.getD i 0 := by
 intro i hi hk
 have hm : (i : Int) ∉ eraN w w.length ++ errL w c := fun hm => by obtain ⟨k, a, b⟩ := tq_ hm; exact hk k a b
 have h1 : (i : Int) ∉ eraN w w.length := fun q => hm (List.mem_append_left _ q)
 have h2 : (i : Int) ∉ errL w c := fun q => hm (List.mem_append_right _ q)
 have h3 : ¬ w.getD i 0 < 0 := fun q => h1 ((pn_ w i).2 ⟨hi, q⟩)
 exact Classical.byContradiction fun q => h2 ((po_ w c i).2 ⟨hi, rl_.2 ⟨by omega, fun e => q e.symm⟩⟩)
section
variable {w c : List Int}
theorem ka1_ (hw : isWord w (-1) = true) (h : Near w c) (j : Nat) (hj : j < 6) :
  psum w (j + 1) w.length = gsum (eraN w w.length).length (fun s => (vG (w.getD (PS (eraN w w.length) s) 0) + vG (c.getD (PS (eraN w w.length) s) 0)) * GF.pw (XP w.length (eraN w w.length) s) (j + 1))
   + gsum (errL w c).length (fun t => (vG (w.getD (PS (errL w c) t) 0) + vG (c.getD (PS (errL w c) t) 0)) * GF.pw (XP w.length (errL w c) t) (j + 1)) := by
 have hn := h.near
 have hD : gf_ w.length (eraN w w.length ++ errL w c) := cd1_ (by rw [tm_]; omega)
 have e := zm_ (c := c) hD h.len (us_ h.len) (j + 1)
 rw [(ye_ h.code).2 j hj, GF.add_zero, List.length_append, zw_] at e
 rw [e]
 congr 1
 ·refine vd_ fun s hs => ?_
  rw [nv_ _ _ _ _ hs]
  congr 3 <;> (unfold PS; rw [List.getD_eq_getElem?_getD (l := eraN w w.length ++ errL w c), List.getElem?_append_left hs, ← List.getD_eq_getElem?_getD])
 ·refine vd_ fun t ht => ?_
  rw [ov_, pa1_]
def lq_ (w c : List Int) (t : Nat) : GF := (vG (w.getD (PS (errL w c) t) 0) + vG (c.getD (PS (errL w c) t) 0)) * (XP w.length (errL w c) t * prodX (XP w.length (eraN w w.length)) (XP w.length (errL w c) t) (eraN w w.length).length)
theorem iw_ (X : Nat → GF) (o j : Nat) (a z : GF) : gsum (o + 1) (fun k => pc X o k * (a * GF.pw z (j + o - k + 1))) = a * (z * prodX X z o) * GF.pw z j := by
 rw [← ie1_ X z o]
 have : a * (z * gsum (o + 1) (fun k => pc X o k * GF.pw z (o - k))) * GF.pw z j = (a * z * GF.pw z j) * gsum (o + 1) (fun k => pc X o k * GF.pw z (o - k)) := by ac_rfl
 rw [this, ← ci_]
 refine vd_ fun k hk => ?_
 rw [show j + o - k + 1 = (j + (o - k)) + 1 from by omega, xz_, GF.er_]
 ac_rfl
theorem ea1_ (hw : isWord w (-1) = true) (h : Near w c) (j : Nat) (hj : j + (eraN w w.length).length < 6) :
  nq_ w (eraN w w.length) j = gsum (errL w c).length (fun t => lq_ w c t * GF.pw (XP w.length (errL w c) t) j) := by
 obtain ⟨o, ho⟩ : ∃ o, o = (eraN w w.length).length := ⟨_, rfl⟩
 obtain ⟨X, hX⟩ : ∃ X, X = XP w.length (eraN w w.length) := ⟨_, rfl⟩
 obtain ⟨Z, hZ⟩ : ∃ Z, Z = XP w.length (errL w c) := ⟨_, rfl⟩
 obtain ⟨a, ha⟩ : ∃ a : Nat → GF, a = fun s => vG (w.getD (PS (eraN w w.length) s) 0) + vG (c.getD (PS (eraN w w.length) s) 0) := ⟨_, rfl⟩
 obtain ⟨b, hb⟩ : ∃ b : Nat → GF, b = fun t => vG (w.getD (PS (errL w c) t) 0) + vG (c.getD (PS (errL w c) t) 0) := ⟨_, rfl⟩
 have hs : ∀ j, j < 6 → psum w (j + 1) w.length = gsum o (fun s => a s * GF.pw (X s) (j + 1)) + gsum (errL w c).length (fun t => b t * GF.pw (Z t) (j + 1)) := by
  intro j hj
  rw [ka1_ hw h j hj, ho, hX, hZ, ha, hb]
 unfold nq_ vt_
 rw [← ho, ← hX]
 have e1 : gsum (o + 1) (fun k => pc X o k * psum w (j + o - k + 1) w.length) = gsum (o + 1) (fun k => gsum o (fun s => pc X o k * (a s * GF.pw (X s) (j + o - k + 1)))) + gsum (o + 1) (fun k => gsum (errL w c).length (fun t => pc X o k * (b t * GF.pw (Z t) (j + o - k + 1)))) := by
  rw [← uj_]
  refine vd_ fun k hk => ?_
  rw [hs (j + o - k) (by omega), GF.mul_add, ci_, ci_]
 rw [e1, xm_, xm_ (o + 1)]
 rw [vd_ (n := o) (g := fun _ => 0) (fun s hs' => by
  rw [iw_ X o j (a s) (X s), (xl_ X (X s) o).2 ⟨s, hs', rfl⟩, GF.mul_zero, GF.mul_zero, GF.zero_mul]), dj_, GF.zero_add]
 refine vd_ fun t ht => ?_
 rw [iw_ X o j (b t) (Z t)]
 unfold lq_
 rw [hb, hZ, hX, ← ho]
theorem xv_ (h : Near w c) : gf_ w.length (errL w c) := gw_ (by have := h.near; have := tm_ w c; unfold errL at this; omega)
theorem wa1_ (hw : isWord w (-1) = true) (h : Near w c) (t : Nat) (ht : t < (errL w c).length) : lq_ w c t ≠ 0 := by
 obtain ⟨w1, w2, w3⟩ := me_ hw
 have hn := h.near
 have hD := xv_ h
 have hm := ew_ hD.1 ht
 obtain ⟨h1, h2⟩ := (po_ w c _).1 hm
 obtain ⟨h3, h4⟩ := rl_.1 h2
 unfold lq_
 refine GF.mul_ne_zero (fun e => h4 ?_) (GF.mul_ne_zero (qa1_ _ _ _) fun e => ?_)
 ·have h5 := GF.bj_ e
  have e1 : isEl (w.getD (PS (errL w c) t) 0) = true := (xd_ _).2 (by have := w3 _ (pf_ h1); omega)
  have e2 : isEl (c.getD (PS (errL w c) t) 0) = true := fh_ h.code _ (by rw [h.len]; exact h1)
  rw [← co_ e1, h5, co_ e2]
 ·obtain ⟨s, hs, e2⟩ := (xl_ _ _ _).1 e
  have hA : gf_ w.length (eraN w w.length ++ errL w c) := cd1_ (by rw [tm_]; omega)
  have := pv_ (l := w) w2 hA ((eraN w w.length).length + t) s (by rw [List.length_append]; omega) (by rw [List.length_append]; omega) (by rw [ov_, nv_ _ _ _ _ hs]; exact e2)
  omega
end
end Go.Proofs.Ytpkhgapifnjbeaa.G
end
section
namespace Go.Proofs.Ytpkhgapifnjbeaa.G
set_option linter.unusedVariables false
set_option linter.unusedSimpArgs false
open Go.RowKit Go.Proofs.Ytpkhgapifnjbeaa.Rs
theorem ex_neg (m : Nat) : GF.ex ((-(m : Int)) % 31).toNat * GF.ex m = 1 := by
 rw [← GF.ty_, GF.zs_, show ((-(m : Int)) % 31).toNat + m = 31 * ((((-(m : Int)) % 31).toNat + m) / 31) from by omega, Nat.mul_mod_right]
 rfl
theorem ax_ {a b u : GF} (h1 : a * u = 1) (h2 : b * u = 1) : a = b := by
 have : a * (b * u) = b * (a * u) := by ac_rfl
 rwa [h1, h2, GF.mul_one, GF.mul_one] at this
theorem hd1_ {n : Nat} (hn : n ≤ 100) {i : Nat} (hi : i < n) (k : Nat) (hk : k ≤ 100) (y : GF) (hy : y * GF.ex (n - 1 - i) = 1) : atI n (i : Int) (-(k : Int) - 1) = ofG (GF.pw y (k + 1)) := by
 unfold atI powI
 have e1 : wrap64 ((n : Int) - 1) = ((n - 1 : Nat) : Int) := by unfold wrap64; omega
 have e2 : wrap64 (((n - 1 : Nat) : Int) - (i : Int)) = ((n - 1 - i : Nat) : Int) := ow_ _ _ (by omega) (by omega)
 have hb : (k + 1) * (n - 1 - i) ≤ 101 * 100 := Nat.mul_le_mul (by omega) (by omega)
 have e4 : (-(k : Int) - 1) * ((n - 1 - i : Nat) : Int) = -(((k + 1) * (n - 1 - i) : Nat) : Int) := by
  rw [Int.natCast_mul, ← Int.neg_mul]; congr 1; omega
 rw [e1, e2, e4]
 generalize hm : (k + 1) * (n - 1 - i) = m at hb
 have e3 : wrap64 (-(m : Int)) = -(m : Int) := by unfold wrap64; omega
 rw [e3]
 congr 1
 refine ax_ (ex_neg m) ?_
 rw [← hm, od1_, ← GF.rc1_, hy, GF.pt_]
theorem pc1_ (m : Nat) : GF.inv (GF.ex m) * GF.ex m = 1 := by rw [GF.mul_comm]; exact GF.su_ _ (GF.zq_ m)
section
variable {w c : List Int}
theorem vand_A (hw : isWord w (-1) = true) (h : Near w c) (D : Nat → GF) (hD : ∀ j, j < (errL w c).length → gsum (errL w c).length (fun t => (lq_ w c t * D t) * GF.pw (XP w.length (errL w c) t) j) = 0) : ∀ t, t < (errL w c).length → D t = 0 := by
 obtain ⟨w1, w2, w3⟩ := me_ hw
 intro t ht
 have := vand (errL w c).length (XP w.length (errL w c)) (fun t => lq_ w c t * D t) 0 (fun _ _ => qa1_ _ _ _) (pv_ (l := w) w2 (xv_ h)) (fun j hj => by
  rw [← hD j hj]; exact vd_ fun t ht => by rw [Nat.zero_add]) t ht
 exact (GF.mul_eq_zero _ _ this).elim (fun q => absurd q (wa1_ hw h t ht)) id
theorem wt_ (hw : isWord w (-1) = true) (h : Near w c) (y : Nat → GF) (j : Nat) (e : Nat) (he : e = (errL w c).length) (hj : j + e + (eraN w w.length).length ≤ 6) :
  gsum e (fun k => nq_ w (eraN w w.length) (j + e - 1 - k) * y k) = gsum e (fun t => (lq_ w c t * gsum e (fun k => y k * GF.pw (XP w.length (errL w c) t) (e - 1 - k))) * GF.pw (XP w.length (errL w c) t) j) := by
 rw [vd_ (n := e) (g := fun k => gsum e (fun t => lq_ w c t * GF.pw (XP w.length (errL w c) t) (j + e - 1 - k) * y k)) (fun k hk => by
  rw [ea1_ hw h _ (by omega), ← he, tl_])]
 rw [xm_]
 refine vd_ fun t ht => ?_
 have : lq_ w c t * gsum e (fun k => y k * GF.pw (XP w.length (errL w c) t) (e - 1 - k)) * GF.pw (XP w.length (errL w c) t) j = (lq_ w c t * GF.pw (XP w.length (errL w c) t) j) * gsum e (fun k => y k * GF.pw (XP w.length (errL w c) t) (e - 1 - k)) := by ac_rfl
 rw [this, ← ci_]
 refine vd_ fun k hk => ?_
 rw [show j + e - 1 - k = j + (e - 1 - k) from by omega, GF.er_]
 ac_rfl
theorem uo_ (w ps : List Int) (t : Nat) (ht : t < 6 - ps.length) : (km_ w ps).getD t 0 = ofG (nq_ w ps t) := by
 unfold km_; rw [dh_ _ t _ ht]
theorem qu_ (w ps : List Int) (n R i k : Nat) (hi : i < R) (hR : R + n + ps.length ≤ 6) (hn : 1 ≤ n) : toG (kg_ (matL (km_ w ps) n R) i k) = if k < n then nq_ w ps (i + n - 1 - k) else if k = n then nq_ w ps (i + n) else 0 := by
 rw [lz_ _ n R i k hi]
 by_cases h1 : k < n
 ·rw [if_pos h1, if_pos h1, uo_ _ _ _ (by omega), yf_]
 ·rw [if_neg h1, if_neg h1]
  by_cases h2 : k = n
  ·rw [if_pos h2, if_pos h2, uo_ _ _ _ (by omega), yf_]
  ·rw [if_neg h2, if_neg h2]; rfl
theorem be1_ (w ps : List Int) (n R : Nat) (hR : R + n + ps.length ≤ 6) (hn : 1 ≤ n) : ElM R (n + 1) (kg_ (matL (km_ w ps) n R)) := by
 intro i k hi hk
 rw [lz_ _ n R i k hi]
 split
 ·rw [uo_ _ _ _ (by omega)]; exact jg_ _
 ·split
  ·rw [uo_ _ _ _ (by omega)]; exact jg_ _
  ·rfl
theorem jz_ (hw : isWord w (-1) = true) (h : Near w c) (e R : Nat) (he : e = (errL w c).length) (h1 : 1 ≤ e) (hR : R + e + (eraN w w.length).length ≤ 6) (heR : e ≤ R) : Indep R e (kg_ (matL (km_ w (eraN w w.length)) e R)) := by
 obtain ⟨w1, w2, w3⟩ := me_ hw
 intro y hy
 have hD := vand_A hw h (fun t => gsum e (fun k => y k * GF.pw (XP w.length (errL w c) t) (e - 1 - k))) (fun j hj => by
  rw [← he] at hj ⊢
  rw [← wt_ hw h y j e he (by omega), ← hy j (by omega)]
  exact vd_ fun k hk => by rw [qu_ _ _ _ _ _ _ (by omega) (by omega) h1, if_pos hk])
 have hr := roots e (XP w.length (errL w c)) (fun _ _ => qa1_ _ _ _) (by rw [he]; exact pv_ (l := w) w2 (xv_ h)) (fun k => y (e - 1 - k)) (fun t ht => by
  rw [← hD t (by omega), ← db1_]
  exact vd_ fun k hk => by rw [show e - 1 - (e - 1 - k) = k from by omega])
 intro k hk
 have : y (e - 1 - (e - 1 - k)) = 0 := hr (e - 1 - k) (by omega)
 rwa [show e - 1 - (e - 1 - k) = k from by omega] at this
theorem zd1_ (hw : isWord w (-1) = true) (h : Near w c) (e R : Nat) (he : e = (errL w c).length) (h1 : 1 ≤ e) (hR : R + e + (eraN w w.length).length ≤ 6) : SolM R e (kg_ (matL (km_ w (eraN w w.length)) e R)) (fun k => pc (XP w.length (errL w c)) e (k + 1)) := by
 intro i hi
 rw [vd_ (n := e) (g := fun k => nq_ w (eraN w w.length) (i + e - 1 - k) * pc (XP w.length (errL w c)) e (k + 1)) (fun k hk => by rw [qu_ _ _ _ _ _ _ hi hR h1, if_pos hk])]
 rw [qu_ _ _ _ _ _ _ hi hR h1, if_neg (by omega), if_pos rfl, wt_ hw h _ i e he (by omega), ea1_ hw h (i + e) (by omega), ← he]
 refine vd_ fun t ht => ?_
 have hz : gsum e (fun k => pc (XP w.length (errL w c)) e (k + 1) * GF.pw (XP w.length (errL w c) t) (e - 1 - k)) = GF.pw (XP w.length (errL w c) t) e := by
  have := ie1_ (XP w.length (errL w c)) (XP w.length (errL w c) t) e
  rw [(xl_ _ _ e).2 ⟨t, ht, rfl⟩, ul_, sp_, GF.one_mul, Nat.sub_zero] at this
  rw [GF.bj_ this]
  exact vd_ fun k hk => by rw [show e - 1 - k = e - (k + 1) from by omega]
 rw [hz, GF.er_]
 ac_rfl
theorem sum_eq (n : Nat) (hn : n ≤ 100) (L : List Int) (Z : Nat → GF) (e i : Nat) (he : e ≤ 10) (hi : i < n) (hL : ∀ k, k < e → L.getD k 0 = ofG (pc Z e (k + 1))) : ∀ q, q ≤ e → sumI n L i q = ofG (1 + gsum q (fun k => pc Z e (k + 1) * GF.pw (GF.inv (GF.ex (n - 1 - i))) (k + 1))) := by
 intro q
 induction q with
 | zero => intro _; simp only [sumI, gsum]; rfl
 | succ q ih =>
  intro hq
  simp only [sumI, gsum]
  rw [ih (by omega), hL q (by omega), hd1_ hn hi q (by omega) _ (pc1_ _), dl_, zj_, GF.add_assoc]
theorem ac1_ (n : Nat) (hn : n ≤ 100) (L : List Int) (Z : Nat → GF) (e i : Nat) (he : e ≤ 10) (hi : i < n) (hL : ∀ k, k < e → L.getD k 0 = ofG (pc Z e (k + 1))) : sumI n L i e = 0 ↔ ∃ t, t < e ∧ GF.ex (n - 1 - i) = Z t := by
 rw [sum_eq n hn L Z e i he hi hL e (Nat.le_refl _), ui_, ← xl_, ← ie1_]
 have hxy := pc1_ (n - 1 - i)
 have e1 : 1 + gsum e (fun k => pc Z e (k + 1) * GF.pw (GF.inv (GF.ex (n - 1 - i))) (k + 1)) = gsum (e + 1) (fun k => pc Z e k * GF.pw (GF.ex (n - 1 - i)) (e - k)) * GF.pw (GF.inv (GF.ex (n - 1 - i))) e := by
  rw [← tl_]
  have : ∀ k, k < e + 1 → pc Z e k * GF.pw (GF.ex (n - 1 - i)) (e - k) * GF.pw (GF.inv (GF.ex (n - 1 - i))) e = pc Z e k * GF.pw (GF.inv (GF.ex (n - 1 - i))) k := by
   intro k hk
   have h2 : GF.pw (GF.inv (GF.ex (n - 1 - i))) e = GF.pw (GF.inv (GF.ex (n - 1 - i))) (e - k) * GF.pw (GF.inv (GF.ex (n - 1 - i))) k := by rw [← GF.er_]; congr 1; omega
   have h3 : GF.pw (GF.ex (n - 1 - i)) (e - k) * GF.pw (GF.inv (GF.ex (n - 1 - i))) (e - k) = 1 := by rw [← GF.rc1_, GF.mul_comm, hxy, GF.pt_]
   rw [h2]
   have : pc Z e k * GF.pw (GF.ex (n - 1 - i)) (e - k) * (GF.pw (GF.inv (GF.ex (n - 1 - i))) (e - k) * GF.pw (GF.inv (GF.ex (n - 1 - i))) k) = pc Z e k * (GF.pw (GF.ex (n - 1 - i)) (e - k) * GF.pw (GF.inv (GF.ex (n - 1 - i))) (e - k)) * GF.pw (GF.inv (GF.ex (n - 1 - i))) k := by ac_rfl
   rw [this, h3, GF.mul_one]
  rw [vd_ this, ul_, sp_]
  congr 1
  exact (GF.mul_one _).symm
 rw [e1]
 refine ⟨fun q => (GF.mul_eq_zero _ _ q).elim id fun q => absurd q (GF.sn_ (fun q2 => ?_) _), fun q => by rw [q, GF.zero_mul]⟩
 rw [q2, GF.zero_mul] at hxy
 exact GF.one_ne_zero hxy.symm
theorem jx_ {P Q : Nat → Bool} {m : Nat} (h : ∀ i, i < m → P i = Q i) : posN P m = posN Q m := by
 induction m with
 | zero => rfl
 | succ m ih => simp only [posN]; rw [ih (fun i hi => h i (by omega)), h m (by omega)]
theorem it_ (hw : isWord w (-1) = true) (h : Near w c) : locR w (eraN w w.length) (errN w c w.length) = (errL w c, true) := by
 obtain ⟨w1, w2, w3⟩ := me_ hw
 have hn := h.near
 obtain ⟨e, he⟩ : ∃ e, e = (errL w c).length := ⟨_, rfl⟩
 have he2 : errN w c w.length = e := by rw [he, tm_]
 rw [he2] at hn ⊢
 unfold locR
 by_cases h0 : e = 0
 ·rw [if_pos h0, List.eq_nil_of_length_eq_zero (show (errL w c).length = 0 from by omega)]
 ·rw [if_neg h0]
  obtain ⟨R, hR⟩ : ∃ R, R = 6 - (eraN w w.length).length - e := ⟨_, rfl⟩
  rw [← hR]
  obtain ⟨s1, s2⟩ := lr_ (be1_ w (eraN w w.length) e R (by omega) (by omega)) (jz_ hw h e R he (by omega) (by omega) (by omega)) (zd1_ hw h e R he (by omega) (by omega))
  have hlen := os_ s1
  unfold ht_
  rw [if_pos s1]
  obtain ⟨L, hL⟩ : ∃ L, L = (solR R e (kg_ (matL (km_ w (eraN w w.length)) e R))).1 := ⟨_, rfl⟩
  rw [← hL] at s2 hlen ⊢
  have hP : posN (locP w L) w.length = errL w c := by
   refine jx_ fun i hi => ?_
   rw [Bool.eq_iff_iff, rl_]
   unfold locP
   simp only [Bool.and_eq_true, decide_eq_true_eq]
   rw [hlen, ac1_ w.length (by omega) L (XP w.length (errL w c)) e i (by omega) hi s2]
   have hD := xv_ h
   constructor
   ·rintro ⟨a, t, ht, hx⟩
    have h2 := hD.lt (l := w) (k := t) (by omega)
    have := GF.nc1_ (by omega) (by omega) hx
    have h3 : PS (errL w c) t = i := by omega
    have h4 := ew_ hD.1 (k := t) (by omega)
    rw [h3] at h4
    exact rl_.1 ((po_ w c i).1 h4).2
   ·intro hE
    obtain ⟨t, ht, hx⟩ := tq_ ((po_ w c i).2 ⟨hi, rl_.2 hE⟩)
    exact ⟨by omega, t, by omega, by unfold XP; rw [hx]⟩
  rw [hP, ← he]
  simp
end
end Go.Proofs.Ytpkhgapifnjbeaa.G
end
section
namespace Go.Proofs.Ytpkhgapifnjbeaa.D
open Go.RowKit Go.Proofs.Ytpkhgapifnjbeaa.G Go.Proofs.Ytpkhgapifnjbeaa.Rs Go.Proofs.YtpkhgapifnjbeaaW.PrintWords Go.Proofs.YtpkhgapifnjbeaaW.PrintLast Go.Proofs.YtpkhgapifnjbeaaW.PrintMore
attribute [local go_sem] dd_ fd_ rd_ sd_ uc_ vc_ ed_ gd_
set_option linter.unusedVariables false
set_option linter.unusedSimpArgs false
def errW : Option Int → Value
 | none => .nilIface
 | some c => .iface 0 (.int .i64 c)
theorem bb_ : errW none = .nilIface := rfl
theorem cb_ (c : Int) : errW (some c) = .iface 0 (.int .i64 c) := rfl
theorem te_ : (Try.prog.info? 3).map (fun i => (i.zero, i.size, i.bytes)) = some (some (.int .i64 0), 1, 8) := by kernel_rfl
def re_ (xs : List (List Int)) (i : Int) : (List Int) := xs.getD i.toNat ([] : List Int)
theorem yk_ {w : World} {A : Option Addr} {n : Nat} {xs : List (List Int)} (h : Kd.C (Kd.slice 3 (Kd.int .i64)) w A n xs) (i : Int) (h0 : 0 ≤ i) (h1 : i < n) : ∃ ad A0 c0, A = some ad ∧ w.cell? (ad.add i.toNat) = some (.slice A0 (re_ xs i).length c0) ∧ (re_ xs i).length ≤ c0 ∧ (Kd.int .i64).C w A0 (re_ xs i).length (re_ xs i) := by
 obtain ⟨ad, c, e, _, hK, hc0⟩ := Kd.ai_ h ([] : List Int) i h0 h1
 have hc : ∀ j u, c[j]? = some u → w.cell? (ad.add (i.toNat * 1 + j)) = some u := hc0
 obtain ⟨A0, c0, rfl, l0, g0⟩ := hK
 exact ⟨ad, A0, c0, e, by have hq := hc 0 _ rfl; rwa [Nat.mul_one, Nat.add_zero] at hq, l0, g0⟩
def hj_ (xs : List (List Int)) (i : Int) : (List Int) := xs.getD i.toNat ([] : List Int)
theorem ta1_ {w : World} {A : Option Addr} {n : Nat} {xs : List (List Int)} (h : Kd.C (Kd.slice 58 (Kd.int .i64)) w A n xs) (i : Int) (h0 : 0 ≤ i) (h1 : i < n) : ∃ ad A0 c0, A = some ad ∧ w.cell? (ad.add i.toNat) = some (.slice A0 (hj_ xs i).length c0) ∧ (hj_ xs i).length ≤ c0 ∧ (Kd.int .i64).C w A0 (hj_ xs i).length (hj_ xs i) := by
 obtain ⟨ad, c, e, _, hK, hc0⟩ := Kd.ai_ h ([] : List Int) i h0 h1
 have hc : ∀ j u, c[j]? = some u → w.cell? (ad.add (i.toNat * 1 + j)) = some u := hc0
 obtain ⟨A0, c0, rfl, l0, g0⟩ := hK
 exact ⟨ad, A0, c0, e, by have hq := hc 0 _ rfl; rwa [Nat.mul_one, Nat.add_zero] at hq, l0, g0⟩
def qk_ (xs : List (List Int)) (i : Int) : (List Int) := xs.getD i.toNat ([] : List Int)
theorem id1_ {w : World} {A : Option Addr} {n : Nat} {xs : List (List Int)} (h : Kd.C (Kd.slice 57 (Kd.int .i64)) w A n xs) (i : Int) (h0 : 0 ≤ i) (h1 : i < n) : ∃ ad A0 c0, A = some ad ∧ w.cell? (ad.add i.toNat) = some (.slice A0 (qk_ xs i).length c0) ∧ (qk_ xs i).length ≤ c0 ∧ (Kd.int .i64).C w A0 (qk_ xs i).length (qk_ xs i) := by
 obtain ⟨ad, c, e, _, hK, hc0⟩ := Kd.ai_ h ([] : List Int) i h0 h1
 have hc : ∀ j u, c[j]? = some u → w.cell? (ad.add (i.toNat * 1 + j)) = some u := hc0
 obtain ⟨A0, c0, rfl, l0, g0⟩ := hK
 exact ⟨ad, A0, c0, e, by have hq := hc 0 _ rfl; rwa [Nat.mul_one, Nat.add_zero] at hq, l0, g0⟩
def ms_ (xs : List (List (List Int))) (i : Int) : (List (List Int)) := xs.getD i.toNat ([] : List (List Int))
theorem at_L5 {w : World} {A : Option Addr} {n : Nat} {xs : List (List (List Int))} (h : Kd.C (Kd.slice 69 (Kd.slice 57 (Kd.int .i64))) w A n xs) (i : Int) (h0 : 0 ≤ i) (h1 : i < n) : ∃ ad A0 c0, A = some ad ∧ w.cell? (ad.add i.toNat) = some (.slice A0 (ms_ xs i).length c0) ∧ (ms_ xs i).length ≤ c0 ∧ (Kd.slice 57 (Kd.int .i64)).C w A0 (ms_ xs i).length (ms_ xs i) := by
 obtain ⟨ad, c, e, _, hK, hc0⟩ := Kd.ai_ h ([] : List (List Int)) i h0 h1
 have hc : ∀ j u, c[j]? = some u → w.cell? (ad.add (i.toNat * 1 + j)) = some u := hc0
 obtain ⟨A0, c0, rfl, l0, g0⟩ := hK
 exact ⟨ad, A0, c0, e, by have hq := hc 0 _ rfl; rwa [Nat.mul_one, Nat.add_zero] at hq, l0, g0⟩
end Go.Proofs.Ytpkhgapifnjbeaa.D
end
section
namespace Go.Proofs.Ytpkhgapifnjbeaa.D
open Go.RowKit Go.Proofs.Ytpkhgapifnjbeaa.G Go.Proofs.Ytpkhgapifnjbeaa.Rs Go.Proofs.YtpkhgapifnjbeaaW.PrintWords Go.Proofs.YtpkhgapifnjbeaaW.PrintLast Go.Proofs.YtpkhgapifnjbeaaW.PrintMore
attribute [local go_sem] dd_ fd_ rd_ sd_ uc_ vc_ ed_ gd_
set_option linter.unusedVariables false
set_option linter.unusedSimpArgs false
def if_.f (a0 : Int) (a1 : Int) : Option (Int × Int) := some (((IntKind.u64.wrap ((IntKind.u64.wrap (a0)) * (IntKind.u64.wrap (a1)))) / 4294967296) % 4294967296, (IntKind.u64.wrap ((IntKind.u64.wrap (a0)) * (IntKind.u64.wrap (a1)))) % 4294967296)
set_option maxHeartbeats 8000000 in
set_option maxRecDepth 100000 in
theorem if_.calls (a0 : Int) (a1 : Int) (r1 : Int) (r2 : Int) (w : World) (h : if_.f a0 a1 = some (r1, r2)) :
  Calls Try.prog 67 #[.int .u32 a0, .int .u32 a1] w fun e w' => e = .returned (.tuple #[.int .u32 r1, .int .u32 r2]) ∧ ra_ w w' := by
 have H : (some (((IntKind.u64.wrap ((IntKind.u64.wrap (a0)) * (IntKind.u64.wrap (a1)))) / 4294967296) % 4294967296, (IntKind.u64.wrap ((IntKind.u64.wrap (a0)) * (IntKind.u64.wrap (a1)))) % 4294967296)) = some (r1, r2) := h
 clear h
 simp only [Option.some.injEq, Prod.mk.injEq] at H
 obtain ⟨rfl, rfl⟩ := H
 go_enter Try.func67, Try.ntmps67
 go_wp2
 go_ret2
 exact ⟨by first | rfl | (simp; done) | (simp [*]; done), by repeat (first | exact ra_.refl _ | apply ra_.step)⟩
def be_.f (a0 : Int) (a1 : Int) : Option (Int × Int) := some (IntKind.u64.wrap ((IntKind.u64.wrap ((IntKind.u64.wrap ((a0 / 4294967296) * (a1 / 4294967296))) + ((IntKind.u64.wrap ((IntKind.u64.wrap ((a0 / 4294967296) * (Go.bits .and .u64 a1 4294967295))) + ((IntKind.u64.wrap ((Go.bits .and .u64 a0 4294967295) * (Go.bits .and .u64 a1 4294967295))) / 4294967296))) / 4294967296))) + ((IntKind.u64.wrap ((Go.bits .and .u64 (IntKind.u64.wrap ((IntKind.u64.wrap ((a0 / 4294967296) * (Go.bits .and .u64 a1 4294967295))) + ((IntKind.u64.wrap ((Go.bits .and .u64 a0 4294967295) * (Go.bits .and .u64 a1 4294967295))) / 4294967296))) 4294967295) + (IntKind.u64.wrap ((Go.bits .and .u64 a0 4294967295) * (a1 / 4294967296))))) / 4294967296)), IntKind.u64.wrap (a0 * a1))
set_option maxHeartbeats 8000000 in
set_option maxRecDepth 100000 in
theorem be_.calls (a0 : Int) (a1 : Int) (r1 : Int) (r2 : Int) (w : World) (h : be_.f a0 a1 = some (r1, r2)) :
  Calls Try.prog 68 #[.int .u64 a0, .int .u64 a1] w fun e w' => e = .returned (.tuple #[.int .u64 r1, .int .u64 r2]) ∧ ra_ w w' := by
 have H : (some (IntKind.u64.wrap ((IntKind.u64.wrap ((IntKind.u64.wrap ((a0 / 4294967296) * (a1 / 4294967296))) + ((IntKind.u64.wrap ((IntKind.u64.wrap ((a0 / 4294967296) * (Go.bits .and .u64 a1 4294967295))) + ((IntKind.u64.wrap ((Go.bits .and .u64 a0 4294967295) * (Go.bits .and .u64 a1 4294967295))) / 4294967296))) / 4294967296))) + ((IntKind.u64.wrap ((Go.bits .and .u64 (IntKind.u64.wrap ((IntKind.u64.wrap ((a0 / 4294967296) * (Go.bits .and .u64 a1 4294967295))) + ((IntKind.u64.wrap ((Go.bits .and .u64 a0 4294967295) * (Go.bits .and .u64 a1 4294967295))) / 4294967296))) 4294967295) + (IntKind.u64.wrap ((Go.bits .and .u64 a0 4294967295) * (a1 / 4294967296))))) / 4294967296)), IntKind.u64.wrap (a0 * a1))) = some (r1, r2) := h
 clear h
 simp only [Option.some.injEq, Prod.mk.injEq] at H
 obtain ⟨rfl, rfl⟩ := H
 go_enter Try.func68, Try.ntmps68
 go_wp2
 go_ret2
 exact ⟨by first | rfl | (simp; done) | (simp [*]; done), by repeat (first | exact ra_.refl _ | apply ra_.step)⟩
def zf_.f (a0 : Int) (a1 : Int) : Option (Int × Int) := (be_.f a0 a1).bind fun bt101 => (some (bt101.1, bt101.2))
set_option maxHeartbeats 8000000 in
set_option maxRecDepth 100000 in
theorem zf_.calls (a0 : Int) (a1 : Int) (r1 : Int) (r2 : Int) (w : World) (h : zf_.f a0 a1 = some (r1, r2)) :
  Calls Try.prog 58 #[.int .u64 a0, .int .u64 a1] w fun e w' => e = .returned (.tuple #[.int .u64 r1, .int .u64 r2]) ∧ ra_ w w' := by
 have H : ((be_.f a0 a1).bind fun bt101 => (some (bt101.1, bt101.2))) = some (r1, r2) := h
 clear h
 replace H := Option.bind_eq_some_iff.mp H
 obtain ⟨⟨t101, t102⟩, A30, H⟩ := H
 replace H : (some (t101, t102)) = some (r1, r2) := H
 have A3 := ba_.mk A30
 clear A30
 simp only [Option.some.injEq, Prod.mk.injEq] at H
 obtain ⟨rfl, rfl⟩ := H
 go_enter Try.func58, Try.ntmps58
 go_wp2_with (first | ((with_reducible refine ua_ (f := 68) rfl ?_); refine hc_ (some 25) rfl rfl Try.func68 (by kernel_rfl) rfl #[.int .u64 a0, .int .u64 a1] rfl (by (try simp only [List.map_toArray, List.map_cons, List.map_nil]); first | done | rfl | (simp only [List.length_drop, List.length_take]; rfl)) ?_; (with_reducible refine (be_.calls a0 a1 t101 t102 _ A3.out).mono ?_); rintro e w' ⟨rfl, ⟨nd, rfl⟩⟩; refine ⟨_, rfl, ?_⟩))
 go_ret2
 exact ⟨by first | rfl | (simp; done) | (simp [*]; done), by repeat (first | exact ra_.refl _ | apply ra_.step)⟩
def bd_.f (a0 : Int) : Option (Int) := if (wrap64 (a0 * 2)) ≥ 32 then (some (Go.bits .xor .i64 (wrap64 (a0 * 2)) 37)) else (some (wrap64 (a0 * 2)))
set_option maxHeartbeats 8000000 in
set_option maxRecDepth 100000 in
theorem bd_.calls (a0 : Int) (r : Int) (w : World) (h : bd_.f a0 = some r) :
  Calls Try.prog 41 #[.int .i64 a0] w fun e w' => e = .returned (.int .i64 r) ∧ ra_ w w' := by
 have H : (if (wrap64 (a0 * 2)) ≥ 32 then (some (Go.bits .xor .i64 (wrap64 (a0 * 2)) 37)) else (some (wrap64 (a0 * 2)))) = some r := h
 clear h
 by_cases c2 : (wrap64 (a0 * 2)) ≥ 32
 ·rw [if_pos c2] at H
  have c2b0 : decide (32 ≤ (wrap64 (a0 * 2))) = true := decide_eq_true c2
  clear c2
  obtain rfl := Option.some.inj H
  go_enter Try.func41, Try.ntmps41
  go_wp2
  go_ret
  exact ⟨by first | rfl | (simp; done) | (simp [*]; done), by repeat (first | exact ra_.refl _ | apply ra_.step)⟩
 ·rw [if_neg c2] at H
  have c2b0 : decide (32 ≤ (wrap64 (a0 * 2))) = false := decide_eq_false c2
  clear c2
  obtain rfl := Option.some.inj H
  go_enter Try.func41, Try.ntmps41
  go_wp2
  go_ret
  exact ⟨by first | rfl | (simp; done) | (simp [*]; done), by repeat (first | exact ra_.refl _ | apply ra_.step)⟩
def kd_.f (a0 : Int) : Option (Bool) := if a0 ≥ 0 then (some (decide (a0 < 32))) else (some false)
set_option maxHeartbeats 8000000 in
set_option maxRecDepth 100000 in
theorem kd_.calls (a0 : Int) (r : Bool) (w : World) (h : kd_.f a0 = some r) :
  Calls Try.prog 38 #[.int .i64 a0] w fun e w' => e = .returned (.bool r) ∧ ra_ w w' := by
 have H : (if a0 ≥ 0 then (some (decide (a0 < 32))) else (some false)) = some r := h
 clear h
 by_cases c2 : a0 ≥ 0
 ·rw [if_pos c2] at H
  have c2b0 : decide (0 ≤ a0) = true := decide_eq_true c2
  clear c2
  obtain rfl := Option.some.inj H
  go_enter Try.func38, Try.ntmps38
  go_wp2
  go_ret
  exact ⟨by first | rfl | (simp; done) | (simp [*]; done), by repeat (first | exact ra_.refl _ | apply ra_.step)⟩
 ·rw [if_neg c2] at H
  have c2b0 : decide (0 ≤ a0) = false := decide_eq_false c2
  clear c2
  obtain rfl := Option.some.inj H
  go_enter Try.func38, Try.ntmps38
  go_wp2
  go_ret
  exact ⟨by first | rfl | (simp; done) | (simp [*]; done), by repeat (first | exact ra_.refl _ | apply ra_.step)⟩
def mb_.l0 : Nat → Int → Int → Int → Option (Int)
 | 0, _, _, _ => none
 | k + 1, x0, x3, x5 => if x5 < 31 then (if x3 = x0 then (some x5) else ((bd_.f x3).bind fun t104 => (mb_.l0 k x0 t104 (wrap64 (x5 + 1))))) else (some 0)
def mb_.f (k : Nat) (a0 : Int) : Option (Int) := mb_.l0 k a0 1 0
theorem mb_.xc_ : ∀ k, (∀ y0 y1 y2, LeO (mb_.l0 k y0 y1 y2) (mb_.l0 (k + 1) y0 y1 y2))
 | 0 => fun _ _ _ r h => by simp [mb_.l0] at h
 | k + 1 => by
  have ih0 := mb_.xc_ k
  ·intro y0 y1 y2
   unfold mb_.l0
   repeat' first
   | (with_reducible exact ih0 _ _ _)
   | (with_reducible exact LeO.refl _)
   | (with_reducible exact LeO.none _)
   | (with_reducible refine LeO.ite ?_ ?_)
   | (with_reducible refine LeO.bind ?_ (fun _ => ?_))
   | exact ih0 _ _ _
   | exact LeO.none _
   | refine LeO.ite ?_ ?_
   | refine LeO.bind ?_ (fun _ => ?_)
theorem mb_.mono : ∀ a0 k, LeO (mb_.f k a0) (mb_.f (k + 1) a0) := by
 intro a0 k
 have ih0 := mb_.xc_ k
 unfold mb_.f
 repeat' first
   | (with_reducible exact ih0 _ _ _)
   | (with_reducible exact LeO.refl _)
   | (with_reducible exact LeO.none _)
   | (with_reducible refine LeO.ite ?_ ?_)
   | (with_reducible refine LeO.bind ?_ (fun _ => ?_))
   | exact ih0 _ _ _
   | exact LeO.none _
   | refine LeO.ite ?_ ?_
   | refine LeO.bind ?_ (fun _ => ?_)
set_option maxHeartbeats 8000000 in
set_option maxRecDepth 100000 in
theorem mb_.calls (k : Nat) (a0 : Int) (r : Int) (w : World) (h : mb_.f k a0 = some r) :
  Calls Try.prog 39 #[.int .i64 a0] w fun e w' => e = .returned (.int .i64 r) ∧ ra_ w w' := by
 have H : (mb_.l0 k a0 1 0) = some r := h
 clear h
 have H' := ba_.mk H
 clear H
 go_enter Try.func39, Try.ntmps39
 go_wp2
 go_loopg [3, 5] k (fun kq v3 v5 w' => ∃ (x3_1 : Int) (x5_1 : Int), v3 = .int .i64 x3_1 ∧ v5 = .int .i64 x5_1 ∧ ba_ (mb_.l0 kq a0 x3_1 x5_1 = some r) ∧ ba_ (kq ≤ k) ∧ ra_ w w')
 case atStart => exact ⟨(1), (0), (by first | rfl | (simp; done) | (simp [*]; done)), (by first | rfl | (simp; done) | (simp [*]; done)), H', ⟨Nat.le_refl _⟩, by repeat (first | exact ra_.refl _ | apply ra_.step)⟩
 case round =>
  clear H'
  obtain ⟨x3_1, x5_1, rfl, rfl, HA, HK1, ⟨m1, rfl⟩⟩ := hrel
  cases gk with
  | zero => exact absurd HA.out (by simp [mb_.l0])
  | succ k1 =>
   have H := HA.out
   clear HA
   simp only [mb_.l0] at H
   by_cases c2 : x5_1 < 31
   ·rw [if_pos c2] at H
    have c2b0 : decide (x5_1 < 31) = true := decide_eq_true c2
    clear c2
    by_cases c3 : x3_1 = a0
    ·rw [if_pos c3] at H
     have c3b0 : (x3_1 == a0) = true := beq_iff_eq.mpr c3
     have c3b1 : (x3_1 != a0) = false := bne_eq_false_iff_eq.mpr c3
     clear c3
     obtain rfl := Option.some.inj H
     go_wp2
     go_ret
     exact ⟨by first | rfl | (simp; done) | (simp [*]; done), by repeat (first | exact ra_.refl _ | apply ra_.step)⟩
    ·rw [if_neg c3] at H
     have c3b0 : (x3_1 == a0) = false := beq_eq_false_iff_ne.mpr c3
     have c3b1 : (x3_1 != a0) = true := bne_iff_ne.mpr c3
     replace H := Option.bind_eq_some_iff.mp H
     obtain ⟨t104, A40, H⟩ := H
     replace H : (mb_.l0 k1 a0 t104 (wrap64 (x5_1 + 1))) = some r := H
     have A4 := ba_.mk A40
     clear A40
     have H' := ba_.mk H
     clear H
     go_wp2_with (first | ((with_reducible refine ua_ (f := 41) rfl ?_); refine hc_ (some 13) rfl rfl Try.func41 (by kernel_rfl) rfl #[.int .i64 x3_1] rfl (by (try simp only [List.map_toArray, List.map_cons, List.map_nil]); first | done | rfl | (simp only [List.length_drop, List.length_take]; rfl)) ?_; (with_reducible refine (bd_.calls x3_1 t104 _ A4.out).mono ?_); rintro e w' ⟨rfl, ⟨nd, rfl⟩⟩; refine ⟨_, rfl, ?_⟩))
     go_roundg k1
     case measure => have := HK1.out; omega
     case rel => exact ⟨(t104), (wrap64 (x5_1 + 1)), (by first | rfl | (simp; done) | (simp [*]; done)), (by first | rfl | (simp; done) | (simp [*]; done)), H', ⟨by have := HK1.out; omega⟩, by repeat (first | exact ra_.refl _ | apply ra_.step)⟩
   ·rw [if_neg c2] at H
    have c2b0 : decide (x5_1 < 31) = false := decide_eq_false c2
    clear c2
    obtain rfl := Option.some.inj H
    go_wp2
    go_ret
    exact ⟨by first | rfl | (simp; done) | (simp [*]; done), by repeat (first | exact ra_.refl _ | apply ra_.step)⟩
mutual
def yc_.l0 : Nat → List Int → List Int → List Int → Int → Int → Option (List Int × Int × Int)
 | 0, _, _, _, _, _ => none
 | k + 1, x0, x5, x15, x16, x17 => if x17 < x16 then (if 0 ≤ x17 then (if x17 < (x15.length : Int) then (if (rd x15 x17) = (-1) then (if x5.length < 17592186044416 then (yc_.l0 k x0 (x5 ++ [x17]) x15 x16 (wrap64 (x17 + 1))) else (none)) else (yc_.l0 k x0 x5 x15 x16 (wrap64 (x17 + 1)))) else (none)) else (none)) else (yc_.l1 k x0 x5 0)
def yc_.l1 : Nat → List Int → List Int → Int → Option (List Int × Int × Int)
 | 0, _, _, _ => none
 | k + 1, x0, x5, x8 => if (wrap64 ((wrap64 (2 * x8)) + (x5.length : Int))) ≤ 6 then ((nu_.f x0 x5 x8).bind fun bt110 => (if bt110.2 = true then ((mp_.f x5 bt110.1).bind fun t114 => ((tj_.f x0 t114).bind fun t117 => (if (t117.length : Int) > 0 then (if 0 ≤ (wrap64 ((x0.length : Int) - 6)) then (if (wrap64 ((x0.length : Int) - 6)) ≤ (t117.length : Int) then (some ((t117.take ((wrap64 ((x0.length : Int) - 6)) : Int).toNat), x8, 0)) else (none)) else (none)) else (yc_.l1 k x0 x5 (wrap64 (x8 + 1)))))) else (yc_.l1 k x0 x5 (wrap64 (x8 + 1))))) else (some (([] : List Int), 0, 25))
end
def yc_.f (k : Nat) (l0 : List Int) : Option (List Int × Int × Int) := (fi_.f l0 (-1)).bind fun t105 => (if t105 = true then (yc_.l0 k l0 ([] : List Int) l0 (l0.length : Int) 0) else (some (([] : List Int), 0, 2)))
theorem yc_.xc_ : ∀ k, (∀ y0 y1 y2 y3 y4, LeO (yc_.l0 k y0 y1 y2 y3 y4) (yc_.l0 (k + 1) y0 y1 y2 y3 y4)) ∧ (∀ y0 y1 y2, LeO (yc_.l1 k y0 y1 y2) (yc_.l1 (k + 1) y0 y1 y2))
 | 0 => ⟨fun _ _ _ _ _ r h => by simp [yc_.l0] at h, fun _ _ _ r h => by simp [yc_.l1] at h⟩
 | k + 1 => by
  obtain ⟨ih0, ih1⟩ := yc_.xc_ k
  refine ⟨?_, ?_⟩
  ·intro y0 y1 y2 y3 y4
   unfold yc_.l0
   repeat' first
   | (with_reducible exact ih0 _ _ _ _ _)
   | (with_reducible exact ih1 _ _ _)
   | (with_reducible exact LeO.refl _)
   | (with_reducible exact LeO.none _)
   | (with_reducible refine LeO.ite ?_ ?_)
   | (with_reducible refine LeO.bind ?_ (fun _ => ?_))
   | exact ih0 _ _ _ _ _
   | exact ih1 _ _ _
   | exact LeO.none _
   | refine LeO.ite ?_ ?_
   | refine LeO.bind ?_ (fun _ => ?_)
  ·intro y0 y1 y2
   unfold yc_.l1
   repeat' first
   | (with_reducible exact ih0 _ _ _ _ _)
   | (with_reducible exact ih1 _ _ _)
   | (with_reducible exact LeO.refl _)
   | (with_reducible exact LeO.none _)
   | (with_reducible refine LeO.ite ?_ ?_)
   | (with_reducible refine LeO.bind ?_ (fun _ => ?_))
   | exact ih0 _ _ _ _ _
   | exact ih1 _ _ _
   | exact LeO.none _
   | refine LeO.ite ?_ ?_
   | refine LeO.bind ?_ (fun _ => ?_)
theorem yc_.mono : ∀ a0 k, LeO (yc_.f k a0) (yc_.f (k + 1) a0) := by
 intro a0 k
 obtain ⟨ih0, ih1⟩ := yc_.xc_ k
 unfold yc_.f
 repeat' first
   | (with_reducible exact ih0 _ _ _ _ _)
   | (with_reducible exact ih1 _ _ _)
   | (with_reducible exact LeO.refl _)
   | (with_reducible exact LeO.none _)
   | (with_reducible refine LeO.ite ?_ ?_)
   | (with_reducible refine LeO.bind ?_ (fun _ => ?_))
   | exact ih0 _ _ _ _ _
   | exact ih1 _ _ _
   | exact LeO.none _
   | refine LeO.ite ?_ ?_
   | refine LeO.bind ?_ (fun _ => ?_)
set_option maxHeartbeats 8000000 in
set_option maxRecDepth 100000 in
theorem yc_.calls (k : Nat) (A0 : Option Addr) (c0 : Nat) (l0 : List Int) (r1 : List Int) (r2 : Int) (r3 : Int) (w : World) (hr0 : Kd.C (Kd.int .i64) w A0 l0.length l0) (hc0 : l0.length ≤ c0) (h : yc_.f k l0 = some (r1, r2, r3)) :
  Calls Try.prog 34 #[.slice A0 l0.length c0] w fun e w' => ∃ v0_ : Value, e = .returned (.tuple #[v0_, .int .i64 r2, .int .i64 r3]) ∧ Kd.R (Kd.int .i64) 3 w' w.heap.size (fun _ => True) v0_ r1 ∧ Below w.heap.size w w' := by
 have HR0 := ba_.mk hr0
 have HC0 := ba_.mk hc0
 clear hr0 hc0
 have HB := ba_.mk (Below.refl w.heap.size w)
 have qN : ∀ (w : World) (a : Option Addr) (n c n' c' : Nat), (binOp .neq 27 (.slice a n c) (.slice none n' c')).run Try.prog w = .ok (.bool (!a.isNone)) w := fun w a n c n' c' => run_neq_slice_nil_any w _ _ a n c n' c' Try.underlying27
 have H : ((fi_.f l0 (-1)).bind fun t105 => (if t105 = true then (yc_.l0 k l0 ([] : List Int) l0 (l0.length : Int) 0) else (some (([] : List Int), 0, 2)))) = some (r1, r2, r3) := h
 clear h
 replace H := Option.bind_eq_some_iff.mp H
 obtain ⟨t105, A20, H⟩ := H
 replace H : (if t105 = true then (yc_.l0 k l0 ([] : List Int) l0 (l0.length : Int) 0) else (some (([] : List Int), 0, 2))) = some (r1, r2, r3) := H
 have A2 := ba_.mk A20
 clear A20
 by_cases c3 : t105 = true
 ·subst c3
  have H1 : (yc_.l0 k l0 ([] : List Int) l0 (l0.length : Int) 0) = some (r1, r2, r3) := by rw [if_pos rfl] at H; exact H
  clear H
  have H := H1
  clear H1
  have H' := ba_.mk H
  clear H
  go_enter Try.func34, Try.ntmps34
  go_wp2_with (first | ((with_reducible refine ua_ (f := 45) rfl ?_); refine hc_ (some 13) rfl rfl Try.func45 (by kernel_rfl) rfl #[.slice A0 l0.length c0, .int .i64 (-1)] rfl (by (try simp only [List.map_toArray, List.map_cons, List.map_nil]); first | done | rfl | (simp only [List.length_drop, List.length_take]; rfl)) ?_; (with_reducible refine (fi_.calls _ _ l0 (-1) true _ ?side1 ?side2 A2.out).mono ?_); (case side1 => repeat (first | exact HR0.out | (with_reducible refine Kd.yb_ ?_ _) | (with_reducible refine Kd.zb_ ?_ _) | (with_reducible refine Kd.jc_ ?_))); (case side2 => exact HC0.out); rintro e w4 ⟨rfl, hb⟩; refine ⟨_, rfl, ?_⟩; have n0_ := ba_.mk (gb_ (by repeat (first | (with_reducible first | exact HB.out | apply fa_ | apply ca_ | apply ga_) | exact HB.out)) hb); clear HB; have HB := n0_; clear n0_; (try clear hb); (try clear hb2); (try clear hk); (try clear hi)))
  go_loopg [5, 17] k (fun kq v5 v17 w' => ∃ (x5_1 : List Int) (x17_1 : Int), v17 = .int .i64 x17_1 ∧ ba_ (yc_.l0 kq l0 x5_1 l0 (l0.length : Int) x17_1 = some (r1, r2, r3)) ∧ ba_ (kq ≤ k) ∧ ba_ (Kd.R (Kd.int .i64) 3 w' w.heap.size (fun _ => True) v5 x5_1) ∧ ba_ (Below w.heap.size w w'))
  case atStart => exact ⟨(([] : List Int)), (0), (by first | rfl | (simp; done) | (simp [*]; done)), H', ⟨Nat.le_refl _⟩, ⟨by first | exact Kd.uf_ _ _ _ _ _ | exact Kd.mh_ _ _ _ _ _ | exact Kd.ph_ _ _ _ _ _ | exact Kd.nh_ _ _ _ _ _ | exact Kd.oh_ _ _ _ _ _⟩, ⟨by repeat (first | (with_reducible first | exact HB.out | apply fa_ | apply ca_ | apply ga_) | exact HB.out)⟩⟩
  case round =>
   clear H'
   try clear p2
   try clear c3
   try clear c4
   obtain ⟨x5_1, x17_1, rfl, HA, HK1, HO_5, HB⟩ := hrel
   cases gk with
   | zero => exact absurd HA.out (by simp [yc_.l0])
   | succ k1 =>
    have H := HA.out
    clear HA
    simp only [yc_.l0] at H
    by_cases c5 : x17_1 < (l0.length : Int)
    ·rw [if_pos c5] at H
     have c5b0 : decide (x17_1 < (l0.length : Int)) = true := decide_eq_true c5
     clear c5
     by_cases c6 : 0 ≤ x17_1
     ·rw [if_pos c6] at H
      have c6b0 : decide (0 ≤ x17_1) = true := decide_eq_true c6
      clear c6
      by_cases c7 : x17_1 < (l0.length : Int)
      ·rw [if_pos c7] at H
       have c7b0 : decide (x17_1 < (l0.length : Int)) = true := decide_eq_true c7
       clear c7
       by_cases c8 : (rd l0 x17_1) = (-1)
       ·rw [if_pos c8] at H
        have c8b0 : ((rd l0 x17_1) == (-1)) = true := beq_iff_eq.mpr c8
        have c8b1 : ((rd l0 x17_1) != (-1)) = false := bne_eq_false_iff_eq.mpr c8
        clear c8
        by_cases c9 : x5_1.length < 17592186044416
        ·rw [if_pos c9] at H
         have LMc9 := ba_.mk c9
         clear c9
         obtain ⟨y107, hy107⟩ : ∃ y_ : List Int, y_ = (x5_1 ++ [x17_1]) := ⟨_, rfl⟩
         replace H : (yc_.l0 k1 l0 y107 l0 (l0.length : Int) (wrap64 (x17_1 + 1))) = some (r1, r2, r3) := by first | (rw [hy107]; with_reducible exact H) | (have H2_ := (Option.bind_some _ _).symm.trans H; rw [hy107]; with_reducible exact H2_) | (have H2_ := (Option.bind_some _ _).symm.trans H; with_reducible exact H2_) | with_reducible exact H | (rw [hy107]; exact H) | exact H
         have Ny107 := ba_.mk hy107
         clear hy107
         have H' := ba_.mk H
         clear H
         have p106 : 0 ≤ (x17_1 : Int) := of_decide_eq_true (by first | (with_reducible assumption) | assumption)
         have q106 : x17_1 < (l0.length : Int) := of_decide_eq_true (by first | (with_reducible assumption) | assumption)
         obtain ⟨ad106, e106, hx106_0⟩ := Kd.nd_ HR0.out x17_1 p106 q106
         cases e106
         replace hx106_0 := (HB.out.cell (World.block_lt_of_cell? w _ hx106_0)).trans hx106_0
         replace p106 := eq_true p106
         replace q106 := eq_true q106
         go_wp2_with (first | ((with_reducible refine hd_ (b := .append) (xs := #[.tmp 24, .tmp 26]) rfl ?_); at_builtin; refine Kd.qe_ (Kd.int .i64) (w0 := w) w.heap.size rfl (.tmp 24) (.tmp 26) 27 3 (.int .i64 0) 8 rfl Try.underlying27 te_ rfl (by decide) (by omega) u5 x5_1 x17_1 [.int .i64 x17_1] (fun _ => True) (fun _ => False) rfl rfl ?aP (fun _ hk => hk.elim) ?aF ?aO ?aB ?aS ?aL ?_; (case aP => exact rfl); (case aB => exact (by repeat (first | (with_reducible first | exact HB.out | apply fa_ | apply ca_ | apply ga_) | exact HB.out))); (case aF => exact (fun _ _ => trivial)); (case aO => exact (by (with_reducible repeat (first | apply Kd.la_ | apply Kd.ka_ | apply Kd.ma_)); exact HO_5.out)); (case aS => exact (eb_ (by repeat (first | (with_reducible first | exact HB.out | apply fa_ | apply ca_ | apply ga_) | exact HB.out)))); (case aL => have := LMc9.out; omega); intro v108 w10 ho hb hg hat; rw [← Ny107.out] at ho; have n0_ := ba_.mk (hb); have n1_ := ba_.mk (ho); clear HB; clear HO_5; have HB := n0_; have HO109 := n1_; clear n0_ n1_; clear ho hb hg hat))
         go_roundg k1
         case measure => have := HK1.out; omega
         case rel => exact ⟨(y107), (wrap64 (x17_1 + 1)), (by first | rfl | (simp; done) | (simp [*]; done)), H', ⟨by have := HK1.out; omega⟩, ⟨by (with_reducible repeat (first | apply Kd.la_ | apply Kd.ka_ | apply Kd.ma_)); exact HO109.out⟩, ⟨by repeat (first | (with_reducible first | exact HB.out | apply fa_ | apply ca_ | apply ga_) | exact HB.out)⟩⟩
        ·rw [if_neg c9] at H
         exact absurd H (by simp)
       ·rw [if_neg c8] at H
        have c8b0 : ((rd l0 x17_1) == (-1)) = false := beq_eq_false_iff_ne.mpr c8
        have c8b1 : ((rd l0 x17_1) != (-1)) = true := bne_iff_ne.mpr c8
        have H' := ba_.mk H
        clear H
        have p106 : 0 ≤ (x17_1 : Int) := of_decide_eq_true (by first | (with_reducible assumption) | assumption)
        have q106 : x17_1 < (l0.length : Int) := of_decide_eq_true (by first | (with_reducible assumption) | assumption)
        obtain ⟨ad106, e106, hx106_0⟩ := Kd.nd_ HR0.out x17_1 p106 q106
        cases e106
        replace hx106_0 := (HB.out.cell (World.block_lt_of_cell? w _ hx106_0)).trans hx106_0
        replace p106 := eq_true p106
        replace q106 := eq_true q106
        go_wp2
        go_roundg k1
        case measure => have := HK1.out; omega
        case rel => exact ⟨(x5_1), (wrap64 (x17_1 + 1)), (by first | rfl | (simp; done) | (simp [*]; done)), H', ⟨by have := HK1.out; omega⟩, ⟨by (with_reducible repeat (first | apply Kd.la_ | apply Kd.ka_ | apply Kd.ma_)); exact HO_5.out⟩, ⟨by repeat (first | (with_reducible first | exact HB.out | apply fa_ | apply ca_ | apply ga_) | exact HB.out)⟩⟩
      ·rw [if_neg c7] at H
       exact absurd H (by simp)
     ·rw [if_neg c6] at H
      exact absurd H (by simp)
    ·rw [if_neg c5] at H
     have c5b0 : decide (x17_1 < (l0.length : Int)) = false := decide_eq_false c5
     clear c5
     have H' := ba_.mk H
     clear H
     go_wp2
     go_loopg [8] k1 (fun kq v8 w' => ∃ (x8_2 : Int), v8 = .int .i64 x8_2 ∧ ba_ (yc_.l1 kq l0 x5_1 x8_2 = some (r1, r2, r3)) ∧ ba_ (kq ≤ k1) ∧ ba_ (Kd.R (Kd.int .i64) 3 w' w.heap.size (fun _ => True) u5 x5_1) ∧ ba_ (Below w.heap.size w w'))
     case atStart => exact ⟨(0), (by first | rfl | (simp; done) | (simp [*]; done)), H', ⟨Nat.le_refl _⟩, ⟨by (with_reducible repeat (first | apply Kd.la_ | apply Kd.ka_ | apply Kd.ma_)); exact HO_5.out⟩, ⟨by repeat (first | (with_reducible first | exact HB.out | apply fa_ | apply ca_ | apply ga_) | exact HB.out)⟩⟩
     case round =>
      clear H'
      try clear p1
      try clear q1
      try clear hx1
      try clear p2
      try clear c3
      try clear c4
      try clear c5
      try clear c5b0
      try clear c6
      try clear c6b0
      try clear p6
      try clear c7
      try clear c7b0
      try clear c8
      try clear c8b0
      try clear c8b1
      try clear c9
      try clear p10
      try clear q10
      try clear hx10
      try clear hx106_0
      try clear p106
      try clear p2
      try clear q106
      obtain ⟨x8_2, rfl, HA, HK2, HO_5, HB⟩ := hrel
      cases gk with
      | zero => exact absurd HA.out (by simp [yc_.l1])
      | succ k2 =>
       have H := HA.out
       clear HA
       simp only [yc_.l1] at H
       by_cases c11 : (wrap64 ((wrap64 (2 * x8_2)) + (x5_1.length : Int))) ≤ 6
       ·rw [if_pos c11] at H
        have c11b0 : decide ((wrap64 ((wrap64 (2 * x8_2)) + (x5_1.length : Int))) ≤ 6) = true := decide_eq_true c11
        clear c11
        replace H := Option.bind_eq_some_iff.mp H
        obtain ⟨⟨t110, t111⟩, A120, H⟩ := H
        replace H : (if t111 = true then ((mp_.f x5_1 t110).bind fun t114 => ((tj_.f l0 t114).bind fun t117 => (if (t117.length : Int) > 0 then (if 0 ≤ (wrap64 ((l0.length : Int) - 6)) then (if (wrap64 ((l0.length : Int) - 6)) ≤ (t117.length : Int) then (some ((t117.take ((wrap64 ((l0.length : Int) - 6)) : Int).toNat), x8_2, 0)) else (none)) else (none)) else (yc_.l1 k2 l0 x5_1 (wrap64 (x8_2 + 1)))))) else (yc_.l1 k2 l0 x5_1 (wrap64 (x8_2 + 1)))) = some (r1, r2, r3) := H
        have A12 := ba_.mk A120
        clear A120
        by_cases c13 : t111 = true
        ·subst c13
         have H1 : ((mp_.f x5_1 t110).bind fun t114 => ((tj_.f l0 t114).bind fun t117 => (if (t117.length : Int) > 0 then (if 0 ≤ (wrap64 ((l0.length : Int) - 6)) then (if (wrap64 ((l0.length : Int) - 6)) ≤ (t117.length : Int) then (some ((t117.take ((wrap64 ((l0.length : Int) - 6)) : Int).toNat), x8_2, 0)) else (none)) else (none)) else (yc_.l1 k2 l0 x5_1 (wrap64 (x8_2 + 1)))))) = some (r1, r2, r3) := by rw [if_pos rfl] at H; exact H
         clear H
         have H := H1
         clear H1
         replace H := Option.bind_eq_some_iff.mp H
         obtain ⟨t114, A140, H⟩ := H
         replace H : ((tj_.f l0 t114).bind fun t117 => (if (t117.length : Int) > 0 then (if 0 ≤ (wrap64 ((l0.length : Int) - 6)) then (if (wrap64 ((l0.length : Int) - 6)) ≤ (t117.length : Int) then (some ((t117.take ((wrap64 ((l0.length : Int) - 6)) : Int).toNat), x8_2, 0)) else (none)) else (none)) else (yc_.l1 k2 l0 x5_1 (wrap64 (x8_2 + 1))))) = some (r1, r2, r3) := H
         have A14 := ba_.mk A140
         clear A140
         replace H := Option.bind_eq_some_iff.mp H
         obtain ⟨t117, A150, H⟩ := H
         replace H : (if (t117.length : Int) > 0 then (if 0 ≤ (wrap64 ((l0.length : Int) - 6)) then (if (wrap64 ((l0.length : Int) - 6)) ≤ (t117.length : Int) then (some ((t117.take ((wrap64 ((l0.length : Int) - 6)) : Int).toNat), x8_2, 0)) else (none)) else (none)) else (yc_.l1 k2 l0 x5_1 (wrap64 (x8_2 + 1)))) = some (r1, r2, r3) := H
         have A15 := ba_.mk A150
         clear A150
         by_cases c16 : (t117.length : Int) > 0
         ·rw [if_pos c16] at H
          have c16b0 : decide (0 < (t117.length : Int)) = true := decide_eq_true c16
          have c16b1 : decide (0 < t117.length) = true := decide_eq_true (by omega)
          clear c16
          obtain ⟨ji17, hji17⟩ : ∃ j_ : Int, (wrap64 ((l0.length : Int) - 6)) = j_ := ⟨_, rfl⟩
          replace H : (if 0 ≤ (ji17) then (if (ji17) ≤ (t117.length : Int) then (some ((t117.take ((ji17) : Int).toNat), x8_2, 0)) else (none)) else (none)) = some (r1, r2, r3) := by first | (rw [hji17] at H; exact H) | (simp only [hji17] at H ⊢; exact H)
          (try rw [hji17] at A12)
          (try rw [hji17] at A14)
          (try rw [hji17] at A15)
          have hji17w : (IntKind.i64.wrap ((l0.length : Int) - 6)) = ji17 := (gc_ _).trans hji17
          by_cases c18 : 0 ≤ (ji17)
          ·rw [if_pos c18] at H
           have c18b0 := eq_true c18
           have c18b1 : decide (0 ≤ (ji17)) = true := decide_eq_true c18
           clear c18
           by_cases c19 : (ji17) ≤ (t117.length : Int)
           ·rw [if_pos c19] at H
            have c19b0 := eq_true c19
            have c19b1 : decide ((ji17) ≤ (t117.length : Int)) = true := decide_eq_true c19
            clear c19
            obtain ⟨y120, hy120⟩ : ∃ y_ : List Int, y_ = (t117.take ((ji17) : Int).toNat) := ⟨_, rfl⟩
            replace H : (some (y120, x8_2, 0)) = some (r1, r2, r3) := by first | (rw [hy120]; with_reducible exact H) | (have H2_ := (Option.bind_some _ _).symm.trans H; rw [hy120]; with_reducible exact H2_) | (have H2_ := (Option.bind_some _ _).symm.trans H; with_reducible exact H2_) | with_reducible exact H | (rw [hy120]; exact H) | exact H
            have Ny120 := ba_.mk hy120
            clear hy120
            simp only [Option.some.injEq, Prod.mk.injEq] at H
            obtain ⟨rfl, rfl, rfl⟩ := H
            obtain ⟨Ao20, co20, eo20⟩ := Kd.fc_ HO_5.out
            subst eo20
            go_wp2_with (first | ((with_reducible refine ua_ (f := 53) rfl ?_); refine hc_ (some 41) rfl rfl Try.func53 (by kernel_rfl) rfl #[.slice A0 l0.length c0, .slice Ao20 x5_1.length co20, .int .i64 x8_2] rfl (by (try simp only [List.map_toArray, List.map_cons, List.map_nil]); first | done | rfl | (simp only [List.length_drop, List.length_take]; rfl)) ?_; (with_reducible refine (nu_.calls _ _ l0 _ _ x5_1 x8_2 t110 true _ ?side1 ?side2 ?side3 ?side4 A12.out).mono ?_); (case side1 => repeat (first | exact (Kd.ie_ HR0.out HB.out) | (with_reducible refine Kd.yb_ ?_ _) | (with_reducible refine Kd.zb_ ?_ _) | (with_reducible refine Kd.jc_ ?_))); (case side2 => exact HC0.out); (case side3 => repeat (first | exact (Kd.ta_ HO_5.out).2.2 | (with_reducible refine Kd.yb_ ?_ _) | (with_reducible refine Kd.zb_ ?_ _) | (with_reducible refine Kd.jc_ ?_))); (case side4 => exact (Kd.ta_ HO_5.out).2.1); rintro e w21 ⟨v112, rfl, ho0, hb⟩; refine ⟨_, rfl, ?_⟩; have n0_ := ba_.mk (Kd.wb_ (by (with_reducible repeat (first | apply Kd.la_ | apply Kd.ka_ | apply Kd.ma_)); exact HO_5.out) (Kd.rc_ ho0) hb); have n1_ := ba_.mk (Kd.wc_ (Kd.qc_ ho0 (Kd.R_lt (by (with_reducible repeat (first | apply Kd.la_ | apply Kd.ka_ | apply Kd.ma_)); exact HO_5.out))) (eb_ (by repeat (first | (with_reducible first | exact HB.out | apply fa_ | apply ca_ | apply ga_) | exact HB.out)))); have n2_ := ba_.mk (gb_ (by repeat (first | (with_reducible first | exact HB.out | apply fa_ | apply ca_ | apply ga_) | exact HB.out)) hb); clear HO_5; clear HB; have HO_5 := n0_; have HO113 := n1_; have HB := n2_; clear n0_ n1_ n2_; (try clear hb); (try clear hb2); (try clear hk); (try clear hi); (try clear ho0); obtain ⟨Ao22, co22, eo22⟩ := Kd.fc_ HO113.out; subst eo22) | ((with_reducible refine yd_ (N := 49) rfl ?_); refine bl_ (v := .slice (some ⟨w21.heap.size, 0, none⟩) 2 2) (w1 := w21.alloc (.cells #[.slice Ao20 x5_1.length co20, .slice Ao22 t110.length co22] 27)) rfl ?hr ?_; (case hr => first | (go_simp; done) | (go_simp; rfl))) | ((with_reducible refine ua_ (f := 43) rfl ?_); refine hc_ (some 50) rfl rfl Try.func43 (by kernel_rfl) rfl #[.slice (some ⟨w21.heap.size, 0, none⟩) 2 2] rfl (by (try simp only [List.map_toArray, List.map_cons, List.map_nil]); first | done | rfl) ?_; (refine (fm_ Ao20 co20 x5_1 Ao22 co22 t110 w21 (Kd.ta_ HO_5.out).2.2 (Kd.ta_ HO_5.out).2.1 (Kd.ta_ HO113.out).2.2 (Kd.ta_ HO113.out).2.1 (by have := (mp_.some A14.out).2; omega)).mono ?_); rintro e w23 ⟨v115, rfl, ho0, hb⟩; rw [← (mp_.some A14.out).1] at ho0; refine ⟨_, rfl, ?_⟩; have n0_ := ba_.mk (Kd.wb_ (by (with_reducible repeat (first | apply Kd.la_ | apply Kd.ka_ | apply Kd.ma_)); exact HO_5.out) (Kd.rc_ ho0) hb); have n1_ := ba_.mk (Kd.wb_ (by (with_reducible repeat (first | apply Kd.la_ | apply Kd.ka_ | apply Kd.ma_)); exact HO113.out) (Kd.rc_ ho0) hb); have n2_ := ba_.mk (Kd.wc_ (Kd.qc_ (Kd.qc_ ho0 (Kd.R_lt (by (with_reducible repeat (first | apply Kd.la_ | apply Kd.ka_ | apply Kd.ma_)); exact HO_5.out))) (Kd.R_lt (by (with_reducible repeat (first | apply Kd.la_ | apply Kd.ka_ | apply Kd.ma_)); exact HO113.out))) (eb_ (by repeat (first | (with_reducible first | exact HB.out | apply fa_ | apply ca_ | apply ga_) | exact HB.out)))); have n3_ := ba_.mk (gb_ (by repeat (first | (with_reducible first | exact HB.out | apply fa_ | apply ca_ | apply ga_) | exact HB.out)) hb); clear HO_5; clear HO113; clear HB; have HO_5 := n0_; have HO113 := n1_; have HO116 := n2_; have HB := n3_; clear n0_ n1_ n2_ n3_; (try clear hb); (try clear hb2); (try clear hk); (try clear hi); (try clear ho0); obtain ⟨Ao24, co24, eo24⟩ := Kd.fc_ HO116.out; subst eo24) | ((with_reducible refine ua_ (f := 47) rfl ?_); refine hc_ (some 51) rfl rfl Try.func47 (by kernel_rfl) rfl #[.slice A0 l0.length c0, .slice Ao24 t114.length co24] rfl (by (try simp only [List.map_toArray, List.map_cons, List.map_nil]); first | done | rfl | (simp only [List.length_drop, List.length_take]; rfl)) ?_; (with_reducible refine (tj_.dy_ _ _ l0 _ _ t114 t117 _ ?side1 ?side2 ?side3 ?side4 A15.out).mono ?_); (case side1 => repeat (first | exact (Kd.ie_ HR0.out HB.out) | (with_reducible refine Kd.yb_ ?_ _) | (with_reducible refine Kd.zb_ ?_ _) | (with_reducible refine Kd.jc_ ?_))); (case side2 => exact HC0.out); (case side3 => repeat (first | exact (Kd.ta_ HO116.out).2.2 | (with_reducible refine Kd.yb_ ?_ _) | (with_reducible refine Kd.zb_ ?_ _) | (with_reducible refine Kd.jc_ ?_))); (case side4 => exact (Kd.ta_ HO116.out).2.1); rintro e w25 ⟨v118, rfl, ho0, hb, hnil⟩; refine ⟨_, rfl, ?_⟩; have HNIL := ba_.mk hnil; clear hnil; have n0_ := ba_.mk (Kd.wb_ (by (with_reducible repeat (first | apply Kd.la_ | apply Kd.ka_ | apply Kd.ma_)); exact HO_5.out) (Kd.rc_ ho0) hb); have n1_ := ba_.mk (Kd.wb_ (by (with_reducible repeat (first | apply Kd.la_ | apply Kd.ka_ | apply Kd.ma_)); exact HO113.out) (Kd.rc_ ho0) hb); have n2_ := ba_.mk (Kd.wb_ (by (with_reducible repeat (first | apply Kd.la_ | apply Kd.ka_ | apply Kd.ma_)); exact HO116.out) (Kd.rc_ ho0) hb); have n3_ := ba_.mk (Kd.wc_ (Kd.qc_ (Kd.qc_ (Kd.qc_ ho0 (Kd.R_lt (by (with_reducible repeat (first | apply Kd.la_ | apply Kd.ka_ | apply Kd.ma_)); exact HO_5.out))) (Kd.R_lt (by (with_reducible repeat (first | apply Kd.la_ | apply Kd.ka_ | apply Kd.ma_)); exact HO113.out))) (Kd.R_lt (by (with_reducible repeat (first | apply Kd.la_ | apply Kd.ka_ | apply Kd.ma_)); exact HO116.out))) (eb_ (by repeat (first | (with_reducible first | exact HB.out | apply fa_ | apply ca_ | apply ga_) | exact HB.out)))); have n4_ := ba_.mk (gb_ (by repeat (first | (with_reducible first | exact HB.out | apply fa_ | apply ca_ | apply ga_) | exact HB.out)) hb); clear HO_5; clear HO113; clear HO116; clear HB; have HO_5 := n0_; have HO113 := n1_; have HO116 := n2_; have HO119 := n3_; have HB := n4_; clear n0_ n1_ n2_ n3_ n4_; (try clear hb); (try clear hb2); (try clear hk); (try clear hi); (try clear ho0); obtain ⟨Ao26, co26, eo26⟩ := Kd.fc_ HO119.out; subst eo26; obtain ⟨g_, hg_⟩ := bx_ HO119.out (by have := of_decide_eq_true c16b1; omega); subst hg_; have q27 : ((ji17) : Int) ≤ ((t117.length : Int) : Int) := of_decide_eq_true (by first | (with_reducible assumption) | assumption); obtain ⟨i027, hi027, _, hsz27, _⟩ := info_parts te_; have hcut27 := pm_ (P := Try.prog) 27 3 .i64 Try.underlying27 hi027 (some g_) t117.length co26 (ji17) (of_decide_eq_true (by first | (with_reducible assumption) | assumption)) q27 (Kd.ta_ HO119.out).2.1; have hr27 := Kd.by_ (m := ((ji17) : Int).toNat) HO119.out (by omega); have hy27 : y120.length = ((ji17) : Int).toNat := (by rw [Ny120.out, List.length_take]; omega); rw [← Ny120.out] at hr27; rw [← hy27] at hr27 hcut27; clear hy27 hi027 hsz27 HO119; have HO122 := ba_.mk hr27; clear hr27; replace q27 := eq_true q27))
            go_ret3
            exact ⟨_, by first | rfl | (simp [bb_, cb_] <;> rfl) | (simp only [← hji17]; first | rfl | (simp [bb_, cb_] <;> rfl)) | (simp [*, bb_, cb_] <;> rfl), by (with_reducible repeat (first | apply Kd.la_ | apply Kd.ka_ | apply Kd.ma_)); exact Kd.bc_ HO122.out (fun _ hk => trivial), by repeat (first | (with_reducible first | exact HB.out | apply fa_ | apply ca_ | apply ga_) | exact HB.out)⟩
           ·rw [if_neg c19] at H
            exact absurd H (by simp)
          ·rw [if_neg c18] at H
           exact absurd H (by simp)
         ·rw [if_neg c16] at H
          have c16b0 : decide (0 < (t117.length : Int)) = false := decide_eq_false c16
          have c16b1 : decide (0 < t117.length) = false := decide_eq_false (by omega)
          clear c16
          have H' := ba_.mk H
          clear H
          obtain ⟨Ao28, co28, eo28⟩ := Kd.fc_ HO_5.out
          subst eo28
          go_wp2_with (first | ((with_reducible refine ua_ (f := 53) rfl ?_); refine hc_ (some 41) rfl rfl Try.func53 (by kernel_rfl) rfl #[.slice A0 l0.length c0, .slice Ao28 x5_1.length co28, .int .i64 x8_2] rfl (by (try simp only [List.map_toArray, List.map_cons, List.map_nil]); first | done | rfl | (simp only [List.length_drop, List.length_take]; rfl)) ?_; (with_reducible refine (nu_.calls _ _ l0 _ _ x5_1 x8_2 t110 true _ ?side1 ?side2 ?side3 ?side4 A12.out).mono ?_); (case side1 => repeat (first | exact (Kd.ie_ HR0.out HB.out) | (with_reducible refine Kd.yb_ ?_ _) | (with_reducible refine Kd.zb_ ?_ _) | (with_reducible refine Kd.jc_ ?_))); (case side2 => exact HC0.out); (case side3 => repeat (first | exact (Kd.ta_ HO_5.out).2.2 | (with_reducible refine Kd.yb_ ?_ _) | (with_reducible refine Kd.zb_ ?_ _) | (with_reducible refine Kd.jc_ ?_))); (case side4 => exact (Kd.ta_ HO_5.out).2.1); rintro e w29 ⟨v112, rfl, ho0, hb⟩; refine ⟨_, rfl, ?_⟩; have n0_ := ba_.mk (Kd.wb_ (by (with_reducible repeat (first | apply Kd.la_ | apply Kd.ka_ | apply Kd.ma_)); exact HO_5.out) (Kd.rc_ ho0) hb); have n1_ := ba_.mk (Kd.wc_ (Kd.qc_ ho0 (Kd.R_lt (by (with_reducible repeat (first | apply Kd.la_ | apply Kd.ka_ | apply Kd.ma_)); exact HO_5.out))) (eb_ (by repeat (first | (with_reducible first | exact HB.out | apply fa_ | apply ca_ | apply ga_) | exact HB.out)))); have n2_ := ba_.mk (gb_ (by repeat (first | (with_reducible first | exact HB.out | apply fa_ | apply ca_ | apply ga_) | exact HB.out)) hb); clear HO_5; clear HB; have HO_5 := n0_; have HO113 := n1_; have HB := n2_; clear n0_ n1_ n2_; (try clear hb); (try clear hb2); (try clear hk); (try clear hi); (try clear ho0); obtain ⟨Ao30, co30, eo30⟩ := Kd.fc_ HO113.out; subst eo30) | ((with_reducible refine yd_ (N := 49) rfl ?_); refine bl_ (v := .slice (some ⟨w29.heap.size, 0, none⟩) 2 2) (w1 := w29.alloc (.cells #[.slice Ao28 x5_1.length co28, .slice Ao30 t110.length co30] 27)) rfl ?hr ?_; (case hr => first | (go_simp; done) | (go_simp; rfl))) | ((with_reducible refine ua_ (f := 43) rfl ?_); refine hc_ (some 50) rfl rfl Try.func43 (by kernel_rfl) rfl #[.slice (some ⟨w29.heap.size, 0, none⟩) 2 2] rfl (by (try simp only [List.map_toArray, List.map_cons, List.map_nil]); first | done | rfl) ?_; (refine (fm_ Ao28 co28 x5_1 Ao30 co30 t110 w29 (Kd.ta_ HO_5.out).2.2 (Kd.ta_ HO_5.out).2.1 (Kd.ta_ HO113.out).2.2 (Kd.ta_ HO113.out).2.1 (by have := (mp_.some A14.out).2; omega)).mono ?_); rintro e w31 ⟨v115, rfl, ho0, hb⟩; rw [← (mp_.some A14.out).1] at ho0; refine ⟨_, rfl, ?_⟩; have n0_ := ba_.mk (Kd.wb_ (by (with_reducible repeat (first | apply Kd.la_ | apply Kd.ka_ | apply Kd.ma_)); exact HO_5.out) (Kd.rc_ ho0) hb); have n1_ := ba_.mk (Kd.wb_ (by (with_reducible repeat (first | apply Kd.la_ | apply Kd.ka_ | apply Kd.ma_)); exact HO113.out) (Kd.rc_ ho0) hb); have n2_ := ba_.mk (Kd.wc_ (Kd.qc_ (Kd.qc_ ho0 (Kd.R_lt (by (with_reducible repeat (first | apply Kd.la_ | apply Kd.ka_ | apply Kd.ma_)); exact HO_5.out))) (Kd.R_lt (by (with_reducible repeat (first | apply Kd.la_ | apply Kd.ka_ | apply Kd.ma_)); exact HO113.out))) (eb_ (by repeat (first | (with_reducible first | exact HB.out | apply fa_ | apply ca_ | apply ga_) | exact HB.out)))); have n3_ := ba_.mk (gb_ (by repeat (first | (with_reducible first | exact HB.out | apply fa_ | apply ca_ | apply ga_) | exact HB.out)) hb); clear HO_5; clear HO113; clear HB; have HO_5 := n0_; have HO113 := n1_; have HO116 := n2_; have HB := n3_; clear n0_ n1_ n2_ n3_; (try clear hb); (try clear hb2); (try clear hk); (try clear hi); (try clear ho0); obtain ⟨Ao32, co32, eo32⟩ := Kd.fc_ HO116.out; subst eo32) | ((with_reducible refine ua_ (f := 47) rfl ?_); refine hc_ (some 51) rfl rfl Try.func47 (by kernel_rfl) rfl #[.slice A0 l0.length c0, .slice Ao32 t114.length co32] rfl (by (try simp only [List.map_toArray, List.map_cons, List.map_nil]); first | done | rfl | (simp only [List.length_drop, List.length_take]; rfl)) ?_; (with_reducible refine (tj_.dy_ _ _ l0 _ _ t114 t117 _ ?side1 ?side2 ?side3 ?side4 A15.out).mono ?_); (case side1 => repeat (first | exact (Kd.ie_ HR0.out HB.out) | (with_reducible refine Kd.yb_ ?_ _) | (with_reducible refine Kd.zb_ ?_ _) | (with_reducible refine Kd.jc_ ?_))); (case side2 => exact HC0.out); (case side3 => repeat (first | exact (Kd.ta_ HO116.out).2.2 | (with_reducible refine Kd.yb_ ?_ _) | (with_reducible refine Kd.zb_ ?_ _) | (with_reducible refine Kd.jc_ ?_))); (case side4 => exact (Kd.ta_ HO116.out).2.1); rintro e w33 ⟨v118, rfl, ho0, hb, hnil⟩; refine ⟨_, rfl, ?_⟩; have HNIL := ba_.mk hnil; clear hnil; have n0_ := ba_.mk (Kd.wb_ (by (with_reducible repeat (first | apply Kd.la_ | apply Kd.ka_ | apply Kd.ma_)); exact HO_5.out) (Kd.rc_ ho0) hb); have n1_ := ba_.mk (Kd.wb_ (by (with_reducible repeat (first | apply Kd.la_ | apply Kd.ka_ | apply Kd.ma_)); exact HO113.out) (Kd.rc_ ho0) hb); have n2_ := ba_.mk (Kd.wb_ (by (with_reducible repeat (first | apply Kd.la_ | apply Kd.ka_ | apply Kd.ma_)); exact HO116.out) (Kd.rc_ ho0) hb); have n3_ := ba_.mk (Kd.wc_ (Kd.qc_ (Kd.qc_ (Kd.qc_ ho0 (Kd.R_lt (by (with_reducible repeat (first | apply Kd.la_ | apply Kd.ka_ | apply Kd.ma_)); exact HO_5.out))) (Kd.R_lt (by (with_reducible repeat (first | apply Kd.la_ | apply Kd.ka_ | apply Kd.ma_)); exact HO113.out))) (Kd.R_lt (by (with_reducible repeat (first | apply Kd.la_ | apply Kd.ka_ | apply Kd.ma_)); exact HO116.out))) (eb_ (by repeat (first | (with_reducible first | exact HB.out | apply fa_ | apply ca_ | apply ga_) | exact HB.out)))); have n4_ := ba_.mk (gb_ (by repeat (first | (with_reducible first | exact HB.out | apply fa_ | apply ca_ | apply ga_) | exact HB.out)) hb); clear HO_5; clear HO113; clear HO116; clear HB; have HO_5 := n0_; have HO113 := n1_; have HO116 := n2_; have HO119 := n3_; have HB := n4_; clear n0_ n1_ n2_ n3_ n4_; (try clear hb); (try clear hb2); (try clear hk); (try clear hi); (try clear ho0); have en_ := HNIL.out (ye1_ A2.out) (List.eq_nil_of_length_eq_zero (by have := of_decide_eq_false c16b1; omega)); subst en_))
          go_roundg k2
          case measure => have := HK1.out; have := HK2.out; omega
          case rel => exact ⟨(wrap64 (x8_2 + 1)), (by first | rfl | (simp; done) | (simp [*]; done)), H', ⟨by have := HK1.out; have := HK2.out; omega⟩, ⟨by (with_reducible repeat (first | apply Kd.la_ | apply Kd.ka_ | apply Kd.ma_)); exact Kd.bc_ HO_5.out (fun _ hk => trivial)⟩, ⟨by repeat (first | (with_reducible first | exact HB.out | apply fa_ | apply ca_ | apply ga_) | exact HB.out)⟩⟩
        ·replace c13 := Bool.eq_false_iff.mpr c13
         subst c13
         have H1 : (yc_.l1 k2 l0 x5_1 (wrap64 (x8_2 + 1))) = some (r1, r2, r3) := by rw [if_neg (show ¬ (false = true) by decide)] at H; exact H
         clear H
         have H := H1
         clear H1
         have H' := ba_.mk H
         clear H
         obtain ⟨Ao35, co35, eo35⟩ := Kd.fc_ HO_5.out
         subst eo35
         go_wp2_with (first | ((with_reducible refine ua_ (f := 53) rfl ?_); refine hc_ (some 41) rfl rfl Try.func53 (by kernel_rfl) rfl #[.slice A0 l0.length c0, .slice Ao35 x5_1.length co35, .int .i64 x8_2] rfl (by (try simp only [List.map_toArray, List.map_cons, List.map_nil]); first | done | rfl | (simp only [List.length_drop, List.length_take]; rfl)) ?_; (with_reducible refine (nu_.calls _ _ l0 _ _ x5_1 x8_2 t110 false _ ?side1 ?side2 ?side3 ?side4 A12.out).mono ?_); (case side1 => repeat (first | exact (Kd.ie_ HR0.out HB.out) | (with_reducible refine Kd.yb_ ?_ _) | (with_reducible refine Kd.zb_ ?_ _) | (with_reducible refine Kd.jc_ ?_))); (case side2 => exact HC0.out); (case side3 => repeat (first | exact (Kd.ta_ HO_5.out).2.2 | (with_reducible refine Kd.yb_ ?_ _) | (with_reducible refine Kd.zb_ ?_ _) | (with_reducible refine Kd.jc_ ?_))); (case side4 => exact (Kd.ta_ HO_5.out).2.1); rintro e w36 ⟨v112, rfl, ho0, hb⟩; refine ⟨_, rfl, ?_⟩; have n0_ := ba_.mk (Kd.wb_ (by (with_reducible repeat (first | apply Kd.la_ | apply Kd.ka_ | apply Kd.ma_)); exact HO_5.out) (Kd.rc_ ho0) hb); have n1_ := ba_.mk (Kd.wc_ (Kd.qc_ ho0 (Kd.R_lt (by (with_reducible repeat (first | apply Kd.la_ | apply Kd.ka_ | apply Kd.ma_)); exact HO_5.out))) (eb_ (by repeat (first | (with_reducible first | exact HB.out | apply fa_ | apply ca_ | apply ga_) | exact HB.out)))); have n2_ := ba_.mk (gb_ (by repeat (first | (with_reducible first | exact HB.out | apply fa_ | apply ca_ | apply ga_) | exact HB.out)) hb); clear HO_5; clear HB; have HO_5 := n0_; have HO113 := n1_; have HB := n2_; clear n0_ n1_ n2_; (try clear hb); (try clear hb2); (try clear hk); (try clear hi); (try clear ho0)))
         go_roundg k2
         case measure => have := HK1.out; have := HK2.out; omega
         case rel => exact ⟨(wrap64 (x8_2 + 1)), (by first | rfl | (simp; done) | (simp [*]; done)), H', ⟨by have := HK1.out; have := HK2.out; omega⟩, ⟨by (with_reducible repeat (first | apply Kd.la_ | apply Kd.ka_ | apply Kd.ma_)); exact Kd.bc_ HO_5.out (fun _ hk => trivial)⟩, ⟨by repeat (first | (with_reducible first | exact HB.out | apply fa_ | apply ca_ | apply ga_) | exact HB.out)⟩⟩
       ·rw [if_neg c11] at H
        have c11b0 : decide ((wrap64 ((wrap64 (2 * x8_2)) + (x5_1.length : Int))) ≤ 6) = false := decide_eq_false c11
        clear c11
        simp only [Option.some.injEq, Prod.mk.injEq] at H
        obtain ⟨rfl, rfl, rfl⟩ := H
        obtain ⟨Ao37, co37, eo37⟩ := Kd.fc_ HO_5.out
        subst eo37
        go_wp2
        go_ret3
        exact ⟨_, by first | rfl | (simp [bb_, cb_] <;> rfl) | (simp [*, bb_, cb_] <;> rfl), by first | exact Kd.uf_ _ _ _ _ _ | exact Kd.mh_ _ _ _ _ _ | exact Kd.ph_ _ _ _ _ _ | exact Kd.nh_ _ _ _ _ _ | exact Kd.oh_ _ _ _ _ _, by repeat (first | (with_reducible first | exact HB.out | apply fa_ | apply ca_ | apply ga_) | exact HB.out)⟩
 ·replace c3 := Bool.eq_false_iff.mpr c3
  subst c3
  have H1 : (some (([] : List Int), 0, 2)) = some (r1, r2, r3) := by rw [if_neg (show ¬ (false = true) by decide)] at H; exact H
  clear H
  have H := H1
  clear H1
  simp only [Option.some.injEq, Prod.mk.injEq] at H
  obtain ⟨rfl, rfl, rfl⟩ := H
  go_enter Try.func34, Try.ntmps34
  go_wp2_with (first | ((with_reducible refine ua_ (f := 45) rfl ?_); refine hc_ (some 13) rfl rfl Try.func45 (by kernel_rfl) rfl #[.slice A0 l0.length c0, .int .i64 (-1)] rfl (by (try simp only [List.map_toArray, List.map_cons, List.map_nil]); first | done | rfl | (simp only [List.length_drop, List.length_take]; rfl)) ?_; (with_reducible refine (fi_.calls _ _ l0 (-1) false _ ?side1 ?side2 A2.out).mono ?_); (case side1 => repeat (first | exact HR0.out | (with_reducible refine Kd.yb_ ?_ _) | (with_reducible refine Kd.zb_ ?_ _) | (with_reducible refine Kd.jc_ ?_))); (case side2 => exact HC0.out); rintro e w38 ⟨rfl, hb⟩; refine ⟨_, rfl, ?_⟩; have n0_ := ba_.mk (gb_ (by repeat (first | (with_reducible first | exact HB.out | apply fa_ | apply ca_ | apply ga_) | exact HB.out)) hb); clear HB; have HB := n0_; clear n0_; (try clear hb); (try clear hb2); (try clear hk); (try clear hi)))
  go_ret3
  exact ⟨_, by first | rfl | (simp [bb_, cb_] <;> rfl) | (simp [*, bb_, cb_] <;> rfl), by first | exact Kd.uf_ _ _ _ _ _ | exact Kd.mh_ _ _ _ _ _ | exact Kd.ph_ _ _ _ _ _ | exact Kd.nh_ _ _ _ _ _ | exact Kd.oh_ _ _ _ _ _, by repeat (first | (with_reducible first | exact HB.out | apply fa_ | apply ca_ | apply ga_) | exact HB.out)⟩
end Go.Proofs.Ytpkhgapifnjbeaa.D
end
section
namespace Go.Proofs.Ytpkhgapifnjbeaa.D
open Go.RowKit Go.Proofs.Ytpkhgapifnjbeaa.G Go.Proofs.Ytpkhgapifnjbeaa.Rs Go.Proofs.YtpkhgapifnjbeaaW.PrintWords Go.Proofs.YtpkhgapifnjbeaaW.PrintLast Go.Proofs.YtpkhgapifnjbeaaW.PrintMore
attribute [local go_sem] dd_ fd_ rd_ sd_ uc_ vc_ ed_ gd_
set_option linter.unusedVariables false
set_option linter.unusedSimpArgs false
end Go.Proofs.Ytpkhgapifnjbeaa.D
end
section
namespace Go.Proofs.Ytpkhgapifnjbeaa.G
set_option linter.unusedVariables false
set_option linter.unusedSimpArgs false
open Go.RowKit Go.Proofs.YtpkhgapifnjbeaaW.PrintWords Go.Proofs.YtpkhgapifnjbeaaW.PrintLast Go.Proofs.YtpkhgapifnjbeaaW.PrintMore Go.Proofs.Ytpkhgapifnjbeaa.Rs
open Go.Proofs.Ytpkhgapifnjbeaa.D
section
variable {w c : List Int}
theorem cx_ {ps : List Int} {n : Nat} (h : (locR w ps n).2 = true) : ∃ Q : Nat → Bool, (locR w ps n).1 = posN Q w.length ∧ (posN Q w.length).length = n ∧ ∀ i, Q i = true → w.getD i 0 ≠ -1 := by
 unfold locR at h ⊢
 by_cases h0 : n = 0
 ·rw [if_pos h0]
  refine ⟨fun _ => false, ?_, ?_, fun i hi => by cases hi⟩
  ·exact (List.eq_nil_of_length_eq_zero (fl_ fun _ _ => rfl)).symm
  ·rw [h0]; exact fl_ fun _ _ => rfl
 ·rw [if_neg h0] at h ⊢
  unfold ht_ at h ⊢
  by_cases h2 : (solR (6 - ps.length - n) n (kg_ (matL (km_ w ps) n (6 - ps.length - n)))).2 = true
  ·rw [if_pos h2] at h ⊢
   refine ⟨_, rfl, ?_, fun i hi => ?_⟩
   ·have := beq_iff_eq.1 h
    omega
   ·unfold locP at hi
    simp only [Bool.and_eq_true, decide_eq_true_eq] at hi
    exact hi.1
  ·rw [if_neg h2] at h; cases h
theorem ry_ {Q : Nat → Bool} (hw : isWord w (-1) = true) (hQ : ∀ i, Q i = true → w.getD i 0 ≠ -1) (h6 : (eraN w w.length).length + (posN Q w.length).length ≤ 6) : gf_ w.length (eraN w w.length ++ posN Q w.length) := by
 obtain ⟨w1, w2, w3⟩ := me_ hw
 refine wo_ (by rw [List.length_append]; exact h6) (List.nodup_append.2 ⟨by rw [hi_]; exact jj_ _ _, jj_ _ _, fun a ha b hb e => ?_⟩) fun x hx => ?_
 ·obtain ⟨i, h1, h2, rfl⟩ := (lg_ _).1 hb
  rw [e] at ha
  have h3 := ((pn_ w i).1 ha).2
  have h4 := w3 _ (pf_ h1)
  exact hQ i h2 (by omega)
 ·rcases List.mem_append.1 hx with hx | hx
  ·rw [hi_] at hx
   obtain ⟨i, h1, _, rfl⟩ := (lg_ _).1 hx
   omega
  ·obtain ⟨i, h1, _, rfl⟩ := (lg_ _).1 hx
   omega
theorem vy_ {Q : Nat → Bool} {n : Nat} (hw : isWord w (-1) = true) (hQ : ∀ i, Q i = true → w.getD i 0 ≠ -1) (hl : (posN Q w.length).length = n) (h6 : (eraN w w.length).length + 2 * n ≤ 6)
  (h : hh_ w (eraN w w.length ++ posN Q w.length) c) : Near w c ∧ errN w c w.length ≤ n := by
 obtain ⟨w1, w2, w3⟩ := me_ hw
 have hD := ry_ hw hQ (by omega)
 have hoff : ∀ i, i < w.length → (i : Int) ∉ eraN w w.length ++ posN Q w.length → c.getD i 0 = w.getD i 0 := fun i hi hm => h.agree i hi fun k hk e => hm (by rw [← e]; exact ew_ hD.1 hk)
 have herr : errN w c w.length ≤ n := by
  rw [lu_, ← hl]
  refine tp_ _ _ _ fun i hi hd => ?_
  obtain ⟨a, b⟩ := xh_.1 hd
  refine Classical.byContradiction fun hq => b ?_
  refine (hoff i hi fun hm => ?_).symm
  rcases List.mem_append.1 hm with hm | hm
  ·exact a hm
  ·obtain ⟨j, h1, h2, h3⟩ := (lg_ _).1 hm
   rw [show i = j from by omega] at hq
   exact hq h2
 refine ⟨⟨gu_ (om_ (by rw [h.len]; omega) fun x hx => ?_) h.cw, h.len, by omega⟩, herr⟩
 obtain ⟨i, hi, rfl⟩ := aj_ hx
 rw [h.len] at hi
 by_cases hm : (i : Int) ∈ eraN w w.length ++ posN Q w.length
 ·obtain ⟨k, hk, e⟩ := tq_ hm
  have := (xd_ _).1 (h.els k hk)
  rw [e] at this; omega
 ·rw [hoff i hi hm]
  have h4 := w3 _ (pf_ hi)
  have h5 : ¬ w.getD i 0 < 0 := fun q => hm (List.mem_append_left _ ((pn_ w i).2 ⟨hi, q⟩))
  omega
theorem dec_l1 (hw : isWord w (-1) = true) : ∀ (d n k : Nat), n + d = 4 → d + 2 < k → (∀ c, Near w c → n ≤ errN w c w.length) → yc_.l1 k w (eraN w w.length) (n : Int) = some (decS w) := by
 obtain ⟨w1, w2, w3⟩ := me_ hw
 have hol := es_ w w.length
 intro d
 induction d with
 | zero =>
  intro n k hn hk hc
  obtain ⟨k, rfl⟩ : ∃ m, k = m + 1 := ⟨k - 1, by omega⟩
  have e1 : wrap64 (2 * (n : Int)) = ((2 * n : Nat) : Int) := by unfold wrap64; omega
  have e2 : wrap64 (((2 * n : Nat) : Int) + ((eraN w w.length).length : Int)) = ((2 * n + (eraN w w.length).length : Nat) : Int) := wrap_add _ _ (by omega)
  simp only [yc_.l1]
  rw [e1, e2, if_neg (by omega), ol_ hw fun c h => by have := h.near; have := hc c h; omega]
 | succ d ih =>
  intro n k hn hk hc
  obtain ⟨k, rfl⟩ : ∃ m, k = m + 1 := ⟨k - 1, by omega⟩
  have e1 : wrap64 (2 * (n : Int)) = ((2 * n : Nat) : Int) := by unfold wrap64; omega
  have e2 : wrap64 (((2 * n : Nat) : Int) + ((eraN w w.length).length : Int)) = ((2 * n + (eraN w w.length).length : Nat) : Int) := wrap_add _ _ (by omega)
  have e3 : wrap64 ((n : Int) + 1) = ((n + 1 : Nat) : Int) := by unfold wrap64; omega
  have e4 : wrap64 ((w.length : Int) - 6) = ((w.length - 6 : Nat) : Int) := by unfold wrap64; omega
  simp only [yc_.l1]
  rw [e1, e2]
  by_cases h6 : 2 * n + (eraN w w.length).length ≤ 6
  ·rw [if_pos (by omega)]
   have hE : gf_ w.length (eraN w w.length) := by rw [hi_]; exact gw_ (by rw [← hi_]; omega)
   rw [dx_ w (eraN w w.length) n w2 hE.1 (by omega), e3, e4]
   simp only [Option.bind_some]
   by_cases h2 : (locR w (eraN w w.length) n).2 = true
   ·rw [if_pos h2]
    obtain ⟨Q, q1, q2, q3⟩ := cx_ h2
    have hD := ry_ hw q3 (by omega)
    unfold mp_.f
    rw [q1, if_pos (by omega)]
    simp only [Option.bind_some]
    rw [lp_ w _ w2 hD.1]
    simp only [Option.bind_some]
    have hwk : ∀ k, k < (eraN w w.length ++ posN Q w.length).length → -1 ≤ w.getD (PS (eraN w w.length ++ posN Q w.length) k) 0 ∧ w.getD (PS (eraN w w.length ++ posN Q w.length) k) 0 ≤ 31 := fun k hk => w3 _ (pf_ (hD.lt hk))
    rcases zv_ w2 hD hwk with hnil | hF
    ·rw [hnil, if_neg (by simp)]
     refine ih (n + 1) k (by omega) (by omega) fun c h => ?_
     have h3 := hc c h
     refine Nat.lt_of_le_of_ne h3 fun he => ?_
     have h4 := it_ hw h
     rw [← he] at h4
     rw [h4] at q1
     have h5 : hh_ w (eraN w w.length ++ posN Q w.length) c := by
      rw [← q1]
      have hA : gf_ w.length (eraN w w.length ++ errL w c) := cd1_ (by rw [tm_]; omega)
      exact ⟨h.len, us_ h.len, fun k hk => fh_ h.code _ (by rw [h.len]; exact hA.lt hk), (ye_ h.code).2⟩
     have h7 := mu_ w2 hD hwk h5
     rw [hnil] at h7
     have := h.len
     rw [← h7] at this
     simp at this
     omega
    ·obtain ⟨f1, f2⟩ := vy_ hw q3 q2 (by omega) hF
     have f3 := hc _ f1
     have f4 : errN w (vm_ w (eraN w w.length ++ posN Q w.length)) w.length = n := by omega
     have f5 := f1.len
     rw [if_pos (by omega), if_pos (by omega), if_pos (by omega), Int.toNat_natCast, ak_ hw f1, f4]
   ·rw [if_neg h2]
    refine ih (n + 1) k (by omega) (by omega) fun c h => ?_
    have h3 := hc c h
    refine Nat.lt_of_le_of_ne h3 fun he => h2 ?_
    have h4 := it_ hw h
    rw [← he] at h4
    rw [h4]
  ·rw [if_neg (by omega), ol_ hw fun c h => by have := h.near; have := hc c h; omega]
theorem dec_l0 (hw : isWord w (-1) = true) : ∀ (d i k : Nat), i + d = w.length → d + 20 < k → yc_.l0 k w (eraN w i) w (w.length : Int) (i : Int) = some (decS w) := by
 obtain ⟨w1, w2, w3⟩ := me_ hw
 intro d
 induction d with
 | zero =>
  intro i k hi hk
  obtain ⟨k, rfl⟩ : ∃ m, k = m + 1 := ⟨k - 1, by omega⟩
  obtain rfl : i = w.length := by omega
  simp only [yc_.l0]
  rw [if_neg (by omega)]
  exact dec_l1 hw 4 0 k (by omega) (by omega) (fun c h => Nat.zero_le _)
 | succ d ih =>
  intro i k hi hk
  obtain ⟨k, rfl⟩ : ∃ m, k = m + 1 := ⟨k - 1, by omega⟩
  have hn := es_ w i
  have hs : wrap64 ((i : Int) + 1) = ((i + 1 : Nat) : Int) := by unfold wrap64; omega
  have h4 := w3 _ (pf_ (d := w) (i := i) (by omega))
  have := ih (i + 1) k (by omega) (by omega)
  simp only [eraN] at this
  simp only [yc_.l0]
  rw [if_pos (by omega), if_pos (by omega), if_pos (by omega), hs, zd_]
  by_cases h0 : w.getD i 0 = -1
  ·rw [if_pos h0, if_pos (by omega)]
   rw [if_pos (by omega)] at this; exact this
  ·rw [if_neg h0]
   rw [if_neg (by omega), List.append_nil] at this; exact this
end
theorem tv_ (w : List Int) (k : Nat) (hk : 100 ≤ k) : yc_.f k w = some (decS w) := by
 unfold yc_.f
 have hg : fi_.f w (-1) = some (isWord w (-1)) := rfl
 rw [hg]
 simp only [Option.bind_some]
 by_cases hw : isWord w (-1) = true
 ·rw [if_pos hw]
  have := (me_ hw).2.1
  exact dec_l0 hw w.length 0 k (by omega) (by omega)
 ·rw [if_neg hw, zr_ hw]
end Go.Proofs.Ytpkhgapifnjbeaa.G
end
section
namespace Go.Proofs.Ytpkhgapifnjbeaa.G
set_option linter.unusedVariables false
set_option linter.unusedSimpArgs false
open Go.RowKit Go.Proofs.YtpkhgapifnjbeaaW.PrintWords Go.Proofs.YtpkhgapifnjbeaaW.PrintLast Go.Proofs.YtpkhgapifnjbeaaW.PrintMore Go.Proofs.Ytpkhgapifnjbeaa.Rs
theorem tr_ (xs ys : List Int) (h : xs.length = ys.length) : ((List.range xs.length).all fun i => xs.getD i 0 == ys.getD i 0) = (xs == ys) := by
 rw [Bool.eq_iff_iff, List.all_eq_true, beq_iff_eq]
 constructor
 ·intro hh
  apply List.ext_getElem h
  intro i h1 h2
  have := hh i (by simpa using h1)
  simpa [List.getD_eq_getElem?_getD, h1, h2] using this
 ·rintro rfl i _
  simp
theorem mo_ {P : Program} (w : World) (d : Nat) (t e : TypeId) (n : Nat) (ht : P.underlying t = some (.array n e)) (he : P.underlying e = some (.int .i64)) (hsz : ∀ w, (sizeOf e).run P w = .ok 1 w)
  (xs ys : List Int) (hx : xs.length = n) (hy : ys.length = n) :
  (Op.equalIn (d + 2) t (.agg (nums .i64 xs).toArray) (.agg (nums .i64 ys).toArray)).run P w = .ok (xs == ys) w := by
 rw [← tr_ xs ys (hx.trans hy.symm), hx, List.range_eq_range', Op.equalIn]
 simp only [Sem.run_bind, run_underlying ht, Result.andThen_ok, hsz, Std.Legacy.Range.forIn_eq_forIn_range', Std.Legacy.Range.size, Nat.sub_zero, Nat.add_sub_cancel, Nat.div_one]
 have hl : ∀ i ∈ List.range' 0 n 1, i < n := fun i hi => by simpa using (List.mem_range'_1.1 hi).2
 generalize List.range' 0 n 1 = l at hl ⊢
 induction l with
 | nil => simp
 | cons i l ih =>
  have hi : i < n := hl i (by simp)
  have px : (part e (nums .i64 xs).toArray (i * 1)).run P w = .ok (.int .i64 (xs.getD i 0)) w := by
   simp [part, isAgg, run_underlying he, nums, List.getD, List.getElem?_eq_getElem (show i < xs.length by omega)]
  have py : (part e (nums .i64 ys).toArray (i * 1)).run P w = .ok (.int .i64 (ys.getD i 0)) w := by
   simp [part, isAgg, run_underlying he, nums, List.getD, List.getElem?_eq_getElem (show i < ys.length by omega)]
  have pe : (Op.equalIn (d + 1) e (.int .i64 (xs.getD i 0)) (.int .i64 (ys.getD i 0))).run P w = .ok (xs.getD i 0 == ys.getD i 0) w := by
   rw [run_equalIn_int w d e .i64 .i64 _ _ he]
  simp only [List.forIn_cons, Sem.run_bind, px, py, pe, Result.andThen_ok, List.all_cons]
  cases hb : (xs.getD i 0 == ys.getD i 0)
  ·simp
  ·simp only [Bool.not_true, Bool.false_eq_true, if_false, Sem.run_pure, Result.andThen_ok, Bool.true_and]
   exact ih fun j hj => hl j (by simp [hj])
theorem qe1_ (w : World) : (sizeOf 57).run Try.prog w = .ok 1 w := by kernel_rfl
theorem nd1_ (xs : List Int) (hx : xs.length = 6) (W : World) : Sem.run Try.prog (binOp .eql 58 (.agg (nums .i64 xs).toArray) (.agg (nums .i64 (List.replicate 6 0)).toArray)) W = .ok (.bool (xs == List.replicate 6 0)) W := by
 rw [run_eql_struct, mo_ W 9998 _ 57 6 Try.underlying58 Try.underlying57 qe1_ xs _ hx rfl]
 rfl
def g_zs.f (l : List Int) : Option Bool := (yl_.f l).map fun r => (r == List.replicate 6 0)
theorem g_zs.some {l : List Int} {t : Bool} (h : g_zs.f l = some t) : ∃ r, yl_.f l = some r ∧ t = (r == List.replicate 6 0) := by
 unfold g_zs.f at h
 obtain ⟨r, h1, h2⟩ := Option.map_eq_some_iff.1 h
 exact ⟨r, h1, h2.symm⟩
end Go.Proofs.Ytpkhgapifnjbeaa.G
end
section
namespace Go.Proofs.Ytpkhgapifnjbeaa.W
open Go.RowKit Go.Proofs.Ytpkhgapifnjbeaa.G Go.Proofs.Ytpkhgapifnjbeaa.Rs Go.Proofs.YtpkhgapifnjbeaaW.PrintWords Go.Proofs.YtpkhgapifnjbeaaW.PrintLast Go.Proofs.YtpkhgapifnjbeaaW.PrintMore
attribute [local go_sem] dd_ fd_ rd_ sd_ uc_ vc_ ed_ gd_
set_option linter.unusedVariables false
set_option linter.unusedSimpArgs false
def errW : Option Int → Value
 | none => .nilIface
 | some c => .iface 0 (.int .i64 c)
theorem bb_ : errW none = .nilIface := rfl
theorem cb_ (c : Int) : errW (some c) = .iface 0 (.int .i64 c) := rfl
def re_ (xs : List (List Int)) (i : Int) : (List Int) := xs.getD i.toNat ([] : List Int)
theorem yk_ {w : World} {A : Option Addr} {n : Nat} {xs : List (List Int)} (h : Kd.C (Kd.slice 3 (Kd.int .i64)) w A n xs) (i : Int) (h0 : 0 ≤ i) (h1 : i < n) : ∃ ad A0 c0, A = some ad ∧ w.cell? (ad.add i.toNat) = some (.slice A0 (re_ xs i).length c0) ∧ (re_ xs i).length ≤ c0 ∧ (Kd.int .i64).C w A0 (re_ xs i).length (re_ xs i) := by
 obtain ⟨ad, c, e, _, hK, hc0⟩ := Kd.ai_ h ([] : List Int) i h0 h1
 have hc : ∀ j u, c[j]? = some u → w.cell? (ad.add (i.toNat * 1 + j)) = some u := hc0
 obtain ⟨A0, c0, rfl, l0, g0⟩ := hK
 exact ⟨ad, A0, c0, e, by have hq := hc 0 _ rfl; rwa [Nat.mul_one, Nat.add_zero] at hq, l0, g0⟩
def hj_ (xs : List (List Int)) (i : Int) : (List Int) := xs.getD i.toNat ([] : List Int)
theorem ta1_ {w : World} {A : Option Addr} {n : Nat} {xs : List (List Int)} (h : Kd.C (Kd.slice 58 (Kd.int .i64)) w A n xs) (i : Int) (h0 : 0 ≤ i) (h1 : i < n) : ∃ ad A0 c0, A = some ad ∧ w.cell? (ad.add i.toNat) = some (.slice A0 (hj_ xs i).length c0) ∧ (hj_ xs i).length ≤ c0 ∧ (Kd.int .i64).C w A0 (hj_ xs i).length (hj_ xs i) := by
 obtain ⟨ad, c, e, _, hK, hc0⟩ := Kd.ai_ h ([] : List Int) i h0 h1
 have hc : ∀ j u, c[j]? = some u → w.cell? (ad.add (i.toNat * 1 + j)) = some u := hc0
 obtain ⟨A0, c0, rfl, l0, g0⟩ := hK
 exact ⟨ad, A0, c0, e, by have hq := hc 0 _ rfl; rwa [Nat.mul_one, Nat.add_zero] at hq, l0, g0⟩
end Go.Proofs.Ytpkhgapifnjbeaa.W
end
