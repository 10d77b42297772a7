/- Put together by pack2.py. -/
import Derived.Test.YtpkhgapifnjbeaaGreatDoorProg
import Derived.Below
import Derived.Deep.Draws
import Derived.Deep.AppendLies
import Derived.Maps.AppendAt
import Derived.OwnWalk
import Derived.Laws.BytesArg
import Derived.Laws.MakeOwn
import Derived.Laws.OwnMore
import Derived.Deep.OwnRows
import Derived.Tactics
import Derived.Lib.ConvBytes
import Derived.Laws.Slices
import Derived.WalkKit
import Derived.KernelRfl
import Derived.RowKit3
import Derived.Deep.LoopGhost
import Derived.Deep.QuietTactic
import Derived.BigQuiet
import Derived.WideLaws
import Derived.Deep.DeepCutAuto
import Derived.Deep.CutBlock
import Derived.Deep.RegionHeld3
import Derived.Laws.Rows
import Derived.Lib.AppendStr
import Derived.ArgAppend
import Derived.Laws.IdiomCopy
import Derived.OrdersHeld
import Derived.Laws.BitsLemmas
import Derived.RowKit
import Derived.Lib.Hide
import Derived.Outline
import Derived.Deep.WholeRow
import Derived.Laws.CopyOwn
import Derived.LoopTactic
import Derived.WalkSpells
import Derived.Test.YtpkhgapifnjbeaaGreatDoorXB0
set_option linter.unusedVariables false
set_option linter.unusedSimpArgs false
section
namespace Go.Proofs.Zw.PrintWords
open RowKit
namespace Kd
def chunks (sz : Nat) (n : Nat) (inner : List Value) : List (List Value) := (List.range n).map fun j => (inner.drop (j * sz)).take sz
theorem ch_ (sz n : Nat) (inner : List Value) : (chunks sz n inner).length = n := by simp [chunks]
theorem oa1_ {sz n : Nat} {inner : List Value} {j : Nat} (hj : j < n) : (chunks sz n inner)[j]? = some ((inner.drop (j * sz)).take sz) := by simp [chunks, hj]
theorem br_ {sz n : Nat} {inner : List Value} {j : Nat} {c : List Value} (h : (chunks sz n inner)[j]? = some c) : c = (inner.drop (j * sz)).take sz := by
 have hj : j < n := by have := (List.getElem?_eq_some_iff.1 h).1; rwa [ch_] at this
 rw [oa1_ hj] at h
 injection h with h
 exact h.symm
theorem se1_ {α : Type} {Rr : α → List Value → Prop} {sz : Nat} {xs : List α} {inner : List Value} (h : Reps Rr sz xs inner) (hR : ∀ x c, Rr x c → c.length = sz ∧ ∀ u ∈ c, u.oneCell' = true) : Reps (fun x cs => cs = x ∧ cs.length = sz ∧ ∀ u ∈ cs, u.oneCell' = true) sz (chunks sz xs.length inner) inner := by
 refine ⟨by rw [ch_]; exact h.1, fun j p hj => ?_⟩
 have hjl : j < xs.length := by have := (List.getElem?_eq_some_iff.1 hj).1; rwa [ch_] at this
 have hp := br_ hj
 exact ⟨hp.symm, hR _ _ (h.2 j _ (List.getElem?_eq_getElem hjl))⟩
section
variable {α : Type} {d : Kd α} {e base n cc g : Nat} {ok ok' okp S : Nat → Prop} {w w1 W W1 : World} {A : Option Addr} {u v v1 : Value} {xs : List α} {x : α} {c : List Value}
def N {α : Type} (d : Kd α) (e : Nat) (w : World) (base : Nat) (ok : Nat → Prop) (v : Value) (xs : List α) : Prop :=
 (∀ k, v.ownBlock = some k → ok k) ∧ ∃ rows : List (List Value), rows.length = xs.length ∧ (raw d.sz).R e w base (fun k => some k = v.ownBlock) v rows ∧ ∀ (j : Nat) (x : α) (c : List Value), xs[j]? = some x → rows[j]? = some c → FK d w (fun k => ok k ∧ some k ≠ v.ownBlock) x c
theorem R_N (h : d.R e w base ok v xs) : N d e w base ok v xs := by
 obtain ⟨h0, inner, ho, hr⟩ := h
 refine ⟨h0, chunks d.sz xs.length inner, ch_ _ _ _, ⟨fun k hk => hk.symm, inner, by rw [ch_]; exact ho, se1_ hr (fun x c hp => ⟨d.K_len (d.K_of_M hp), d.K_one (d.K_of_M hp)⟩)⟩, fun j x c hx hc => ?_⟩
 rw [br_ hc]
 exact xf1_ (hr.2 j x hx)
theorem mh_ (d : Kd α) (e : Nat) (w : World) (base : Nat) (ok : Nat → Prop) : N d e w base ok (.slice none 0 0) [] := R_N (yf_ _ _ _ _ _)
end
end Kd
end Go.Proofs.Zw.PrintWords
end
section
namespace Go.Proofs.YtpkhgapifnjbeaaGreatDoor.B
open RowKit Zw.PrintWords Zw.PrintLast Zw.PrintMore
attribute [local go_sem] id_ kd_ vd_ wd_ bd_ cd_ jd_ ld_
def errW : Option Int → Value
 | none => .nilIface
 | some c => .iface 0 (.int .i64 c)
theorem ta_ : errW none = .nilIface := rfl
theorem ua_ (c : Int) : errW (some c) = .iface 0 (.int .i64 c) := rfl
end Go.Proofs.YtpkhgapifnjbeaaGreatDoor.B
end
section
namespace Go.Proofs.YtpkhgapifnjbeaaGreatDoor.B
open RowKit Zw.PrintWords Zw.PrintLast Zw.PrintMore
attribute [local go_sem] id_ kd_ vd_ wd_ bd_ cd_ jd_ ld_
def nc_.f (a0 : Int) : Option (Int) := if (wrap64 (a0 * 2)) ≥ 32 then (some (Go.bits .xor .i64 (wrap64 (a0 * 2)) 37)) else (some (wrap64 (a0 * 2)))
set_option maxHeartbeats 8000000 in
set_option maxRecDepth 100000 in
theorem nc_.calls (a0 : Int) (r : Int) (w : World) (h : nc_.f a0 = some r) :
  Calls Tryz.prog 114 #[.int .i64 a0] w fun e w' => e = .returned (.int .i64 r) ∧ ja_ w w' := by
 have H : (if (wrap64 (a0 * 2)) ≥ 32 then (some (Go.bits .xor .i64 (wrap64 (a0 * 2)) 37)) else (some (wrap64 (a0 * 2)))) = some r := h
 clear h
 by_cases c2 : (wrap64 (a0 * 2)) ≥ 32
 ·exact Xg
 ·exact Xh
def rc_.l0 : Nat → Int → Int → Int → Option (Int)
 | 0, _, _, _ => none
 | k + 1, x3, x7, x8 => if x8 < x7 then ((nc_.f x3).bind fun t101 => (rc_.l0 k t101 x7 (wrap64 (x8 + 1)))) else (some x3)
def rc_.f (k : Nat) (a0 : Int) : Option (Int) := rc_.l0 k 1 (Int.tmod (wrap64 ((Int.tmod a0 31) + 31)) 31) 0
theorem rc_.yc_ : ∀ k, (∀ y0 y1 y2, LeO (rc_.l0 k y0 y1 y2) (rc_.l0 (k + 1) y0 y1 y2))
 | 0 => fun _ _ _ r h => by simp [rc_.l0] at h
 | k + 1 => by
  have ih0 := rc_.yc_ k
  intro y0 y1 y2
  unfold rc_.l0
  repeat' first
  | (with_reducible exact ih0 _ _ _)
  | (with_reducible first | exact LeO.refl _ | exact LeO.none _ | refine LeO.ite ?_ ?_ | refine LeO.bind ?_ (fun _ => ?_))
  | exact ih0 _ _ _
  | exact LeO.none _
  | refine LeO.ite ?_ ?_
  | refine LeO.bind ?_ (fun _ => ?_)
theorem rc_.mono : ∀ a0 k, LeO (rc_.f k a0) (rc_.f (k + 1) a0) := by
 intro a0 k
 have ih0 := rc_.yc_ k
 unfold rc_.f
 repeat' first
   | (with_reducible exact ih0 _ _ _)
   | (with_reducible first | exact LeO.refl _ | exact LeO.none _ | refine LeO.ite ?_ ?_ | refine LeO.bind ?_ (fun _ => ?_))
   | exact ih0 _ _ _
   | exact LeO.none _
   | refine LeO.ite ?_ ?_
   | refine LeO.bind ?_ (fun _ => ?_)
set_option maxHeartbeats 8000000 in
set_option maxRecDepth 100000 in
theorem rc_.calls (k : Nat) (a0 : Int) (r : Int) (w : World) (h : rc_.f k a0 = some r) :
  Calls Tryz.prog 80 #[.int .i64 a0] w fun e w' => e = .returned (.int .i64 r) ∧ ja_ w w' := by
 have H : (rc_.l0 k 1 (Int.tmod (wrap64 ((Int.tmod a0 31) + 31)) 31) 0) = some r := h
 clear h
 have H' := ba_.mk H
 clear H
 go_enter Tryz.func80, Tryz.ntmps80
 go_wp2
 go_loopg [3, 8] k (fun kq v3 v8 w' => ∃ (x3_1 : Int) (x8_1 : Int), v3 = .int .i64 x3_1 ∧ v8 = .int .i64 x8_1 ∧ ba_ (rc_.l0 kq x3_1 (Int.tmod (wrap64 ((Int.tmod a0 31) + 31)) 31) x8_1 = some r) ∧ ba_ (kq ≤ k) ∧ ja_ w w')
 case atStart => exact Xs
 case round =>
  clear H'
  obtain ⟨x3_1, x8_1, rfl, rfl, HA, HK1, ⟨m1, rfl⟩⟩ := hrel
  cases gk with
  | zero => exact absurd HA.out (by simp [rc_.l0])
  | succ k1 =>
   have H := HA.out
   clear HA
   simp only [rc_.l0] at H
   by_cases c2 : x8_1 < (Int.tmod (wrap64 ((Int.tmod a0 31) + 31)) 31)
   rotate_left
   ·exact Xo
   rw [if_pos c2] at H
   have c2b0 := decide_eq_true c2
   clear c2
   obtain ⟨t101, A3, H⟩ := Qk H
   try dsimp only at H
   have H' := ba_.mk H
   clear H
   go_wp2_with (first | ((with_reducible refine ia_ (f := 114) rfl ?_); refine gc_ (some 11) rfl rfl Tryz.func114 Qb rfl #[.int .i64 x3_1] rfl Qj ?_; (with_reducible refine (nc_.calls x3_1 t101 _ A3.out).mono ?_); rintro e w' ⟨rfl, ⟨nd, rfl⟩⟩; refine ⟨_, rfl, ?_⟩))
   go_roundg k1
   case measure => have := HK1.out; omega
   case rel => exact ⟨(t101), (wrap64 (x8_1 + 1)), Qi, Qi, H', ⟨Qw⟩, Qp⟩
def sc_.f (a0 : Int) : Option (Bool) := if a0 ≥ 0 then (some (decide (a0 < 32))) else (some false)
set_option maxHeartbeats 8000000 in
set_option maxRecDepth 100000 in
theorem sc_.calls (a0 : Int) (r : Bool) (w : World) (h : sc_.f a0 = some r) :
  Calls Tryz.prog 112 #[.int .i64 a0] w fun e w' => e = .returned (.bool r) ∧ ja_ w w' := by
 have H : (if a0 ≥ 0 then (some (decide (a0 < 32))) else (some false)) = some r := h
 clear h
 by_cases c2 : a0 ≥ 0
 ·exact Xx
 ·exact Xy
def pa_.l0 : Nat → Int → Int → Int → Option (Int)
 | 0, _, _, _ => none
 | k + 1, x0, x3, x5 => if x5 < 31 then (if x3 = x0 then (some x5) else ((nc_.f x3).bind fun t102 => (pa_.l0 k x0 t102 (wrap64 (x5 + 1))))) else (some 0)
def pa_.f (k : Nat) (a0 : Int) : Option (Int) := pa_.l0 k a0 1 0
theorem pa_.yc_ : ∀ k, (∀ y0 y1 y2, LeO (pa_.l0 k y0 y1 y2) (pa_.l0 (k + 1) y0 y1 y2))
 | 0 => fun _ _ _ r h => by simp [pa_.l0] at h
 | k + 1 => by
  have ih0 := pa_.yc_ k
  intro y0 y1 y2
  unfold pa_.l0
  repeat' first
  | (with_reducible exact ih0 _ _ _)
  | (with_reducible first | exact LeO.refl _ | exact LeO.none _ | refine LeO.ite ?_ ?_ | refine LeO.bind ?_ (fun _ => ?_))
  | exact ih0 _ _ _
  | exact LeO.none _
  | refine LeO.ite ?_ ?_
  | refine LeO.bind ?_ (fun _ => ?_)
theorem pa_.mono : ∀ a0 k, LeO (pa_.f k a0) (pa_.f (k + 1) a0) := by
 intro a0 k
 have ih0 := pa_.yc_ k
 unfold pa_.f
 repeat' first
   | (with_reducible exact ih0 _ _ _)
   | (with_reducible first | exact LeO.refl _ | exact LeO.none _ | refine LeO.ite ?_ ?_ | refine LeO.bind ?_ (fun _ => ?_))
   | exact ih0 _ _ _
   | exact LeO.none _
   | refine LeO.ite ?_ ?_
   | refine LeO.bind ?_ (fun _ => ?_)
set_option maxHeartbeats 8000000 in
set_option maxRecDepth 100000 in
theorem pa_.calls (k : Nat) (a0 : Int) (r : Int) (w : World) (h : pa_.f k a0 = some r) :
  Calls Tryz.prog 113 #[.int .i64 a0] w fun e w' => e = .returned (.int .i64 r) ∧ ja_ w w' := by
 have H : (pa_.l0 k a0 1 0) = some r := h
 clear h
 have H' := ba_.mk H
 clear H
 go_enter Tryz.func113, Tryz.ntmps113
 go_wp2
 go_loopg [3, 5] k (fun kq v3 v5 w' => ∃ (x3_1 : Int) (x5_1 : Int), v3 = .int .i64 x3_1 ∧ v5 = .int .i64 x5_1 ∧ ba_ (pa_.l0 kq a0 x3_1 x5_1 = some r) ∧ ba_ (kq ≤ k) ∧ ja_ w w')
 case atStart => exact Xs
 case round =>
  clear H'
  try clear c1
  obtain ⟨x3_1, x5_1, rfl, rfl, HA, HK1, ⟨m1, rfl⟩⟩ := hrel
  cases gk with
  | zero => exact absurd HA.out (by simp [pa_.l0])
  | succ k1 =>
   have H := HA.out
   clear HA
   simp only [pa_.l0] at H
   by_cases c2 : x5_1 < 31
   rotate_left
   ·exact Xo
   rw [if_pos c2] at H
   have c2b0 := decide_eq_true c2
   clear c2
   by_cases c3 : x3_1 = a0
   ·exact Xz
   rw [if_neg c3] at H
   have c3b0 : (x3_1 == a0) = false := beq_eq_false_iff_ne.mpr c3
   have c3b1 : (x3_1 != a0) = true := bne_iff_ne.mpr c3
   obtain ⟨t102, A4, H⟩ := Qk H
   try dsimp only at H
   have H' := ba_.mk H
   clear H
   go_wp2_with (first | ((with_reducible refine ia_ (f := 114) rfl ?_); refine gc_ (some 13) rfl rfl Tryz.func114 Qb rfl #[.int .i64 x3_1] rfl Qj ?_; (with_reducible refine (nc_.calls x3_1 t102 _ A4.out).mono ?_); rintro e w' ⟨rfl, ⟨nd, rfl⟩⟩; refine ⟨_, rfl, ?_⟩))
   go_roundg k1
   case measure => have := HK1.out; omega
   case rel => exact ⟨(t102), (wrap64 (x5_1 + 1)), Qi, Qi, H', ⟨Qw⟩, Qp⟩
def wc_.j0 : Nat → Int → Int → Bool → Option (Int)
 | 0, _, _, _ => none
 | k + 1, x0, x1, x20 => if x20 = true then (some 0) else ((pa_.f k x0).bind fun t105 => ((pa_.f k x1).bind fun t106 => ((rc_.f k (wrap64 (t105 + t106))).bind fun t107 => (some t107))))
def wc_.f (k : Nat) (a0 : Int) (a1 : Int) : Option (Int) := (sc_.f a0).bind fun t103 => (if t103 = true then ((sc_.f a1).bind fun t104 => (if t104 = true then (if a0 = 0 then (wc_.j0 k a0 a1 true) else (wc_.j0 k a0 a1 (a1 == 0))) else (wc_.j0 k a0 a1 true))) else (wc_.j0 k a0 a1 true))
theorem wc_.yc_ : ∀ k, (∀ y0 y1 y2, LeO (wc_.j0 k y0 y1 y2) (wc_.j0 (k + 1) y0 y1 y2))
 | 0 => fun _ _ _ r h => by simp [wc_.j0] at h
 | k + 1 => by
  have ih0 := wc_.yc_ k
  intro y0 y1 y2
  unfold wc_.j0
  repeat' first
  | (with_reducible exact ih0 _ _ _)
  | (with_reducible exact rc_.mono _ _)
  | (with_reducible exact pa_.mono _ _)
  | (with_reducible first | exact LeO.refl _ | exact LeO.none _ | refine LeO.ite ?_ ?_ | refine LeO.bind ?_ (fun _ => ?_))
  | exact ih0 _ _ _
  | exact rc_.mono _ _
  | exact pa_.mono _ _
  | exact LeO.none _
  | refine LeO.ite ?_ ?_
  | refine LeO.bind ?_ (fun _ => ?_)
theorem wc_.mono : ∀ a0 a1 k, LeO (wc_.f k a0 a1) (wc_.f (k + 1) a0 a1) := by
 intro a0 a1 k
 have ih0 := wc_.yc_ k
 unfold wc_.f
 repeat' first
   | (with_reducible exact ih0 _ _ _)
   | (with_reducible exact rc_.mono _ _)
   | (with_reducible exact pa_.mono _ _)
   | (with_reducible first | exact LeO.refl _ | exact LeO.none _ | refine LeO.ite ?_ ?_ | refine LeO.bind ?_ (fun _ => ?_))
   | exact ih0 _ _ _
   | exact rc_.mono _ _
   | exact pa_.mono _ _
   | exact LeO.none _
   | refine LeO.ite ?_ ?_
   | refine LeO.bind ?_ (fun _ => ?_)
set_option maxHeartbeats 8000000 in
set_option maxRecDepth 100000 in
theorem wc_.calls (k : Nat) (a0 : Int) (a1 : Int) (r : Int) (w : World) (h : wc_.f k a0 a1 = some r) :
  Calls Tryz.prog 79 #[.int .i64 a0, .int .i64 a1] w fun e w' => e = .returned (.int .i64 r) ∧ ja_ w w' := by
 have H : ((sc_.f a0).bind fun t103 => (if t103 = true then ((sc_.f a1).bind fun t104 => (if t104 = true then (if a0 = 0 then (wc_.j0 k a0 a1 true) else (wc_.j0 k a0 a1 (a1 == 0))) else (wc_.j0 k a0 a1 true))) else (wc_.j0 k a0 a1 true))) = some r := h
 clear h
 have HC3 := ba_.mk H
 clear H
 go_enter Tryz.func79, Tryz.ntmps79
 go_upto_region 1 with (fail)
 go_cut [20] (fun v20 wc => ∃ (kq : Nat) (x20_2 : Bool), v20 = .bool x20_2 ∧ ba_ (wc_.j0 kq a0 a1 x20_2 = some r) ∧ ba_ (kq ≤ k) ∧ ja_ w wc)
 case first =>
  have H := HC3.out
  clear HC3
  obtain ⟨t103, A4, H⟩ := Qk H
  try dsimp only at H
  by_cases c5 : t103 = true
  rotate_left
  ·replace c5 := Bool.eq_false_iff.mpr c5
   subst c5
   have H1 : (wc_.j0 k a0 a1 true) = some r := by rw [if_neg (show ¬ (false = true) by decide)] at H; exact H
   clear H
   have H := H1
   clear H1
   have H' := ba_.mk H
   clear H
   go_wp2_with (first | ((with_reducible refine ia_ (f := 112) rfl ?_); refine gc_ (some 6) rfl rfl Tryz.func112 Qb rfl #[.int .i64 a0] rfl Qj ?_; (with_reducible refine (sc_.calls a0 false _ A4.out).mono ?_); rintro e w' ⟨rfl, ⟨nd, rfl⟩⟩; refine ⟨_, rfl, ?_⟩))
   go_meet
   case rel => exact Xt
  subst c5
  have H1 : ((sc_.f a1).bind fun t104 => (if t104 = true then (if a0 = 0 then (wc_.j0 k a0 a1 true) else (wc_.j0 k a0 a1 (a1 == 0))) else (wc_.j0 k a0 a1 true))) = some r := by rw [if_pos rfl] at H; exact H
  clear H
  have H := H1
  clear H1
  obtain ⟨t104, A6, H⟩ := Qk H
  try dsimp only at H
  by_cases c7 : t104 = true
  rotate_left
  ·replace c7 := Bool.eq_false_iff.mpr c7
   subst c7
   have H1 : (wc_.j0 k a0 a1 true) = some r := by rw [if_neg (show ¬ (false = true) by decide)] at H; exact H
   clear H
   have H := H1
   clear H1
   have H' := ba_.mk H
   clear H
   go_wp2_with (first | ((with_reducible refine ia_ (f := 112) rfl ?_); refine gc_ (some 6) rfl rfl Tryz.func112 Qb rfl #[.int .i64 a0] rfl Qj ?_; (with_reducible refine (sc_.calls a0 true _ A4.out).mono ?_); rintro e w' ⟨rfl, ⟨nd, rfl⟩⟩; refine ⟨_, rfl, ?_⟩) | (go_at_call 112; (with_reducible refine (sc_.calls a1 false _ A6.out).mono ?_); rintro e w' ⟨rfl, ⟨nd, rfl⟩⟩))
   go_meet
   case rel => exact Xt
  subst c7
  have H1 : (if a0 = 0 then (wc_.j0 k a0 a1 true) else (wc_.j0 k a0 a1 (a1 == 0))) = some r := by rw [if_pos rfl] at H; exact H
  clear H
  have H := H1
  clear H1
  by_cases c8 : a0 = 0
  rotate_left
  ·rw [if_neg c8] at H
   have c8b0 : (a0 == 0) = false := beq_eq_false_iff_ne.mpr c8
   have c8b1 : (a0 != 0) = true := bne_iff_ne.mpr c8
   (first | rw [c8b0] | (simp only [yb_, ac_]; rw [c8b0]) | skip)
   have H' := ba_.mk H
   clear H
   go_wp2_with (first | ((with_reducible refine ia_ (f := 112) rfl ?_); refine gc_ (some 6) rfl rfl Tryz.func112 Qb rfl #[.int .i64 a0] rfl Qj ?_; (with_reducible refine (sc_.calls a0 true _ A4.out).mono ?_); rintro e w' ⟨rfl, ⟨nd, rfl⟩⟩; refine ⟨_, rfl, ?_⟩) | (go_at_call 112; (with_reducible refine (sc_.calls a1 true _ A6.out).mono ?_); rintro e w' ⟨rfl, ⟨nd, rfl⟩⟩))
   go_meet
   case rel => exact ⟨_, ((a1 == 0)), Qi, H', ⟨Xf⟩, Qp⟩
  rw [if_pos c8] at H
  have c8b0 : (a0 == 0) = true := beq_iff_eq.mpr c8
  have c8b1 : (a0 != 0) = false := bne_eq_false_iff_eq.mpr c8
  clear c8
  (first | rw [c8b0] | (simp only [yb_, ac_]; rw [c8b0]) | skip)
  have H' := ba_.mk H
  clear H
  go_wp2_with (first | ((with_reducible refine ia_ (f := 112) rfl ?_); refine gc_ (some 6) rfl rfl Tryz.func112 Qb rfl #[.int .i64 a0] rfl Qj ?_; (with_reducible refine (sc_.calls a0 true _ A4.out).mono ?_); rintro e w' ⟨rfl, ⟨nd, rfl⟩⟩; refine ⟨_, rfl, ?_⟩) | (go_at_call 112; (with_reducible refine (sc_.calls a1 true _ A6.out).mono ?_); rintro e w' ⟨rfl, ⟨nd, rfl⟩⟩))
  go_meet
  case rel => exact Xt
 case rest =>
  clear HC3
  try clear c1
  try clear p2
  try clear c5
  try clear c7
  try clear c8
  try clear c8b0
  try clear c8b1
  obtain ⟨kq, x20_2, rfl, HA, HJ2, ⟨mc2, rfl⟩⟩ := hcut
  cases kq with
  | zero => exact absurd HA.out (by simp [wc_.j0])
  | succ kj2 =>
   have H := HA.out
   clear HA
   simp only [wc_.j0] at H
   by_cases c9 : x20_2 = true
   ·subst c9
    have H1 : (some 0) = some r := by rw [if_pos rfl] at H; exact H
    clear H
    have H := H1
    clear H1
    obtain rfl := Option.some.inj H
    go_wp2
    go_ret
    exact ⟨Qi, Qp⟩
   replace c9 := Bool.eq_false_iff.mpr c9
   subst c9
   have H1 : ((pa_.f kj2 a0).bind fun t105 => ((pa_.f kj2 a1).bind fun t106 => ((rc_.f kj2 (wrap64 (t105 + t106))).bind fun t107 => (some t107)))) = some r := by rw [if_neg (show ¬ (false = true) by decide)] at H; exact H
   clear H
   have H := H1
   clear H1
   obtain ⟨t105, A10, H⟩ := Qk H
   try dsimp only at H
   obtain ⟨t106, A11, H⟩ := Qk H
   try dsimp only at H
   obtain ⟨t107, A12, H⟩ := Qk H
   try dsimp only at H
   obtain rfl := Option.some.inj H
   go_wp2_with (first | ((with_reducible refine ia_ (f := 113) rfl ?_); refine gc_ (some 22) rfl rfl Tryz.func113 Qb rfl #[.int .i64 a0] rfl Qj ?_; (with_reducible refine (pa_.calls kj2 a0 t105 _ A10.out).mono ?_); rintro e w' ⟨rfl, ⟨nd, rfl⟩⟩; refine ⟨_, rfl, ?_⟩) | ((with_reducible refine ia_ (f := 113) rfl ?_); refine gc_ (some 24) rfl rfl Tryz.func113 Qb rfl #[.int .i64 a1] rfl Qj ?_; (with_reducible refine (pa_.calls kj2 a1 t106 _ A11.out).mono ?_); rintro e w' ⟨rfl, ⟨nd, rfl⟩⟩; refine ⟨_, rfl, ?_⟩) | ((with_reducible refine ia_ (f := 80) rfl ?_); refine gc_ (some 26) rfl rfl Tryz.func80 Qb rfl #[.int .i64 (wrap64 (t105 + t106))] rfl Qj ?_; (with_reducible refine (rc_.calls kj2 (wrap64 (t105 + t106)) t107 _ A12.out).mono ?_); rintro e w' ⟨rfl, ⟨nd, rfl⟩⟩; refine ⟨_, rfl, ?_⟩))
   go_ret
   exact ⟨Qi, Qp⟩
def uc_.j0 : Nat → Int → Bool → Option (Int)
 | 0, _, _ => none
 | k + 1, x0, x9 => if x9 = true then (some 0) else ((pa_.f k x0).bind fun t109 => ((rc_.f k (wrap64 (-t109))).bind fun t110 => (some t110)))
def uc_.f (k : Nat) (a0 : Int) : Option (Int) := (sc_.f a0).bind fun t108 => (if t108 = true then (uc_.j0 k a0 (a0 == 0)) else (uc_.j0 k a0 true))
theorem uc_.yc_ : ∀ k, (∀ y0 y1, LeO (uc_.j0 k y0 y1) (uc_.j0 (k + 1) y0 y1))
 | 0 => fun _ _ r h => by simp [uc_.j0] at h
 | k + 1 => by
  have ih0 := uc_.yc_ k
  intro y0 y1
  unfold uc_.j0
  repeat' first
  | (with_reducible exact ih0 _ _)
  | (with_reducible exact rc_.mono _ _)
  | (with_reducible exact pa_.mono _ _)
  | (with_reducible first | exact LeO.refl _ | exact LeO.none _ | refine LeO.ite ?_ ?_ | refine LeO.bind ?_ (fun _ => ?_))
  | exact ih0 _ _
  | exact rc_.mono _ _
  | exact pa_.mono _ _
  | exact LeO.none _
  | refine LeO.ite ?_ ?_
  | refine LeO.bind ?_ (fun _ => ?_)
theorem uc_.mono : ∀ a0 k, LeO (uc_.f k a0) (uc_.f (k + 1) a0) := by
 intro a0 k
 have ih0 := uc_.yc_ k
 unfold uc_.f
 repeat' first
   | (with_reducible exact ih0 _ _)
   | (with_reducible exact rc_.mono _ _)
   | (with_reducible exact pa_.mono _ _)
   | (with_reducible first | exact LeO.refl _ | exact LeO.none _ | refine LeO.ite ?_ ?_ | refine LeO.bind ?_ (fun _ => ?_))
   | exact ih0 _ _
   | exact rc_.mono _ _
   | exact pa_.mono _ _
   | exact LeO.none _
   | refine LeO.ite ?_ ?_
   | refine LeO.bind ?_ (fun _ => ?_)
set_option maxHeartbeats 8000000 in
set_option maxRecDepth 100000 in
theorem uc_.calls (k : Nat) (a0 : Int) (r : Int) (w : World) (h : uc_.f k a0 = some r) :
  Calls Tryz.prog 158 #[.int .i64 a0] w fun e w' => e = .returned (.int .i64 r) ∧ ja_ w w' := by
 have H : ((sc_.f a0).bind fun t108 => (if t108 = true then (uc_.j0 k a0 (a0 == 0)) else (uc_.j0 k a0 true))) = some r := h
 clear h
 have HC2 := ba_.mk H
 clear H
 go_enter Tryz.func158, Tryz.ntmps158
 go_upto_region 1 with (fail)
 go_cut [9] (fun v9 wc => ∃ (kq : Nat) (x9_1 : Bool), v9 = .bool x9_1 ∧ ba_ (uc_.j0 kq a0 x9_1 = some r) ∧ ba_ (kq ≤ k) ∧ ja_ w wc)
 case first =>
  have H := HC2.out
  clear HC2
  obtain ⟨t108, A3, H⟩ := Qk H
  try dsimp only at H
  by_cases c4 : t108 = true
  ·subst c4
   have H1 : (uc_.j0 k a0 (a0 == 0)) = some r := by rw [if_pos rfl] at H; exact H
   clear H
   have H := H1
   clear H1
   have H' := ba_.mk H
   clear H
   go_wp2_with (first | ((with_reducible refine ia_ (f := 112) rfl ?_); refine gc_ (some 4) rfl rfl Tryz.func112 Qb rfl #[.int .i64 a0] rfl Qj ?_; (with_reducible refine (sc_.calls a0 true _ A3.out).mono ?_); rintro e w' ⟨rfl, ⟨nd, rfl⟩⟩; refine ⟨_, rfl, ?_⟩))
   go_meet
   case rel => exact ⟨_, ((a0 == 0)), Qi, H', ⟨Xf⟩, Qp⟩
  replace c4 := Bool.eq_false_iff.mpr c4
  subst c4
  have H1 : (uc_.j0 k a0 true) = some r := by rw [if_neg (show ¬ (false = true) by decide)] at H; exact H
  clear H
  have H := H1
  clear H1
  have H' := ba_.mk H
  clear H
  go_wp2_with (first | ((with_reducible refine ia_ (f := 112) rfl ?_); refine gc_ (some 4) rfl rfl Tryz.func112 Qb rfl #[.int .i64 a0] rfl Qj ?_; (with_reducible refine (sc_.calls a0 false _ A3.out).mono ?_); rintro e w' ⟨rfl, ⟨nd, rfl⟩⟩; refine ⟨_, rfl, ?_⟩))
  go_meet
  case rel => exact Xt
 case rest =>
  clear HC2
  try clear c1
  try clear p2
  try clear c4
  obtain ⟨kq, x9_1, rfl, HA, HJ1, ⟨mc1, rfl⟩⟩ := hcut
  cases kq with
  | zero => exact absurd HA.out (by simp [uc_.j0])
  | succ kj1 =>
   have H := HA.out
   clear HA
   simp only [uc_.j0] at H
   by_cases c5 : x9_1 = true
   ·subst c5
    have H1 : (some 0) = some r := by rw [if_pos rfl] at H; exact H
    clear H
    have H := H1
    clear H1
    obtain rfl := Option.some.inj H
    go_wp2
    go_ret
    exact ⟨Qi, Qp⟩
   replace c5 := Bool.eq_false_iff.mpr c5
   subst c5
   have H1 : ((pa_.f kj1 a0).bind fun t109 => ((rc_.f kj1 (wrap64 (-t109))).bind fun t110 => (some t110))) = some r := by rw [if_neg (show ¬ (false = true) by decide)] at H; exact H
   clear H
   have H := H1
   clear H1
   obtain ⟨t109, A6, H⟩ := Qk H
   try dsimp only at H
   obtain ⟨t110, A7, H⟩ := Qk H
   try dsimp only at H
   obtain rfl := Option.some.inj H
   go_wp2_with (first | ((with_reducible refine ia_ (f := 113) rfl ?_); refine gc_ (some 11) rfl rfl Tryz.func113 Qb rfl #[.int .i64 a0] rfl Qj ?_; (with_reducible refine (pa_.calls kj1 a0 t109 _ A6.out).mono ?_); rintro e w' ⟨rfl, ⟨nd, rfl⟩⟩; refine ⟨_, rfl, ?_⟩) | ((with_reducible refine ia_ (f := 80) rfl ?_); refine gc_ (some 13) rfl rfl Tryz.func80 Qb rfl #[.int .i64 (wrap64 (-t109))] rfl Qj ?_; (with_reducible refine (rc_.calls kj1 (wrap64 (-t109)) t110 _ A7.out).mono ?_); rintro e w' ⟨rfl, ⟨nd, rfl⟩⟩; refine ⟨_, rfl, ?_⟩))
   go_ret
   exact ⟨Qi, Qp⟩
def kj_.f (a0 : Int) (a1 : Int) : Option (Int) := some (Go.bits .xor .i64 a0 a1)
set_option maxHeartbeats 8000000 in
set_option maxRecDepth 100000 in
theorem kj_.calls (a0 : Int) (a1 : Int) (r : Int) (w : World) (h : kj_.f a0 a1 = some r) :
  Calls Tryz.prog 115 #[.int .i64 a0, .int .i64 a1] w fun e w' => e = .returned (.int .i64 r) ∧ ja_ w w' := by
 have H : (some (Go.bits .xor .i64 a0 a1)) = some r := h
 clear h
 obtain rfl := Option.some.inj H
 go_enter Tryz.func115, Tryz.ntmps115
 go_wp2
 go_ret
 exact ⟨Qi, Qp⟩
def ef_.f (k : Nat) (a0 : Int) (a1 : Int) : Option (Int) := (wc_.f k a0 a1).bind fun t111 => (some t111)
theorem ef_.mono : ∀ a0 a1 k, LeO (ef_.f k a0 a1) (ef_.f (k + 1) a0 a1) := by
 intro a0 a1 k
 unfold ef_.f
 repeat' first
   | (with_reducible exact wc_.mono _ _ _)
   | (with_reducible first | exact LeO.refl _ | exact LeO.none _ | refine LeO.ite ?_ ?_ | refine LeO.bind ?_ (fun _ => ?_))
   | exact wc_.mono _ _ _
   | exact LeO.none _
   | refine LeO.ite ?_ ?_
   | refine LeO.bind ?_ (fun _ => ?_)
set_option maxHeartbeats 8000000 in
set_option maxRecDepth 100000 in
theorem ef_.calls (k : Nat) (a0 : Int) (a1 : Int) (r : Int) (w : World) (h : ef_.f k a0 a1 = some r) :
  Calls Tryz.prog 116 #[.int .i64 a0, .int .i64 a1] w fun e w' => e = .returned (.int .i64 r) ∧ ja_ w w' := by
 have H : ((wc_.f k a0 a1).bind fun t111 => (some t111)) = some r := h
 clear h
 obtain ⟨t111, A3, H⟩ := Qk H
 try dsimp only at H
 obtain rfl := Option.some.inj H
 go_enter Tryz.func116, Tryz.ntmps116
 go_wp2_with (first | ((with_reducible refine ia_ (f := 79) rfl ?_); refine gc_ (some 7) rfl rfl Tryz.func79 Qb rfl #[.int .i64 a0, .int .i64 a1] rfl Qj ?_; (with_reducible refine (wc_.calls k a0 a1 t111 _ A3.out).mono ?_); rintro e w' ⟨rfl, ⟨nd, rfl⟩⟩; refine ⟨_, rfl, ?_⟩))
 go_ret
 exact ⟨Qi, Qp⟩
def we_.f (k : Nat) (a0 : Int) : Option (Int) := (uc_.f k a0).bind fun t112 => (some t112)
theorem we_.mono : ∀ a0 k, LeO (we_.f k a0) (we_.f (k + 1) a0) := by
 intro a0 k
 unfold we_.f
 repeat' first
   | (with_reducible exact uc_.mono _ _)
   | (with_reducible first | exact LeO.refl _ | exact LeO.none _ | refine LeO.ite ?_ ?_ | refine LeO.bind ?_ (fun _ => ?_))
   | exact uc_.mono _ _
   | exact LeO.none _
   | refine LeO.ite ?_ ?_
   | refine LeO.bind ?_ (fun _ => ?_)
set_option maxHeartbeats 8000000 in
set_option maxRecDepth 100000 in
theorem we_.calls (k : Nat) (a0 : Int) (r : Int) (w : World) (h : we_.f k a0 = some r) :
  Calls Tryz.prog 157 #[.int .i64 a0] w fun e w' => e = .returned (.int .i64 r) ∧ ja_ w w' := by
 have H : ((uc_.f k a0).bind fun t112 => (some t112)) = some r := h
 clear h
 obtain ⟨t112, A2, H⟩ := Qk H
 try dsimp only at H
 obtain rfl := Option.some.inj H
 go_enter Tryz.func157, Tryz.ntmps157
 go_wp2_with (first | ((with_reducible refine ia_ (f := 158) rfl ?_); refine gc_ (some 4) rfl rfl Tryz.func158 Qb rfl #[.int .i64 a0] rfl Qj ?_; (with_reducible refine (uc_.calls k a0 t112 _ A2.out).mono ?_); rintro e w' ⟨rfl, ⟨nd, rfl⟩⟩; refine ⟨_, rfl, ?_⟩))
 go_ret
 exact ⟨Qi, Qp⟩
def ki_.f (k : Nat) (l0 : List Int) (a1 : Int) (a2 : Int) : Option (Int) := (rc_.f k (wrap64 (a2 * (wrap64 ((wrap64 ((l0.length : Int) - 1)) - a1))))).bind fun t113 => (some t113)
theorem ki_.mono : ∀ a0 a1 a2 k, LeO (ki_.f k a0 a1 a2) (ki_.f (k + 1) a0 a1 a2) := by
 intro a0 a1 a2 k
 unfold ki_.f
 repeat' first
   | (with_reducible exact rc_.mono _ _)
   | (with_reducible first | exact LeO.refl _ | exact LeO.none _ | refine LeO.ite ?_ ?_ | refine LeO.bind ?_ (fun _ => ?_))
   | exact rc_.mono _ _
   | exact LeO.none _
   | refine LeO.ite ?_ ?_
   | refine LeO.bind ?_ (fun _ => ?_)
set_option maxHeartbeats 8000000 in
set_option maxRecDepth 100000 in
theorem ki_.calls (k : Nat) (A0 : Option Addr) (c0 : Nat) (l0 : List Int) (a1 : Int) (a2 : Int) (r : Int) (w : World) (hr0 : Kd.C (Kd.int .i64) w A0 l0.length l0) (hc0 : l0.length ≤ c0) (h : ki_.f k l0 a1 a2 = some r) :
  Calls Tryz.prog 95 #[.slice A0 l0.length c0, .int .i64 a1, .int .i64 a2] w fun e w' => e = .returned (.int .i64 r) ∧ ja_ w w' := by
 have HR0 := ba_.mk hr0
 have HC0 := ba_.mk hc0
 clear hr0 hc0
 have H : ((rc_.f k (wrap64 (a2 * (wrap64 ((wrap64 ((l0.length : Int) - 1)) - a1))))).bind fun t113 => (some t113)) = some r := h
 clear h
 obtain ⟨t113, A4, H⟩ := Qk H
 try dsimp only at H
 obtain rfl := Option.some.inj H
 go_enter Tryz.func95, Tryz.ntmps95
 go_wp2_with (first | ((with_reducible refine ia_ (f := 80) rfl ?_); refine gc_ (some 14) rfl rfl Tryz.func80 Qb rfl #[.int .i64 (wrap64 (a2 * (wrap64 ((wrap64 ((l0.length : Int) - 1)) - a1))))] rfl Qj ?_; (with_reducible refine (rc_.calls k (wrap64 (a2 * (wrap64 ((wrap64 ((l0.length : Int) - 1)) - a1)))) t113 _ A4.out).mono ?_); rintro e w' ⟨rfl, ⟨nd, rfl⟩⟩; refine ⟨_, rfl, ?_⟩))
 go_ret
 exact ⟨Qi, Qp⟩
def dc_.f (a0 : Int) : Option (Bool) := if a0 ≥ 0 then (some (decide (a0 < 32))) else (some false)
set_option maxHeartbeats 8000000 in
set_option maxRecDepth 100000 in
theorem dc_.calls (a0 : Int) (r : Bool) (w : World) (h : dc_.f a0 = some r) :
  Calls Tryz.prog 84 #[.int .i64 a0] w fun e w' => e = .returned (.bool r) ∧ ja_ w w' := by
 have H : (if a0 ≥ 0 then (some (decide (a0 < 32))) else (some false)) = some r := h
 clear h
 by_cases c2 : a0 ≥ 0
 ·exact X8
 ·exact X9
end Go.Proofs.YtpkhgapifnjbeaaGreatDoor.B
end
section
namespace Go.Proofs.YtpkhgapifnjbeaaGreatDoor.B
open RowKit Zw.PrintWords Zw.PrintLast Zw.PrintMore
attribute [local go_sem] id_ kd_ vd_ wd_ bd_ cd_ jd_ ld_
mutual
def ka_.j0 : Nat → Int → Int → Bool → Option (Int)
 | 0, _, _, _ => none
 | k + 1, x0, x1, x15 => if x15 = true then (some 0) else (ka_.l0 k x0 x1 0 0)
def ka_.l0 : Nat → Int → Int → Int → Int → Option (Int)
 | 0, _, _, _, _ => none
 | k + 1, x0, x1, x5, x6 => if x6 < 5 then (if 0 ≤ (IntKind.u64.wrap (x6)) then (if (Go.bits .and .i64 (shr .i64 x1 (IntKind.u64.wrap (x6))) 1) = 1 then (ka_.l0 k x0 x1 (Go.bits .xor .i64 x5 (shl .i64 x0 (IntKind.u64.wrap (x6)))) (wrap64 (x6 + 1))) else (ka_.l0 k x0 x1 x5 (wrap64 (x6 + 1)))) else (none)) else (ka_.l1 k x5 8)
def ka_.l1 : Nat → Int → Int → Option (Int)
 | 0, _, _ => none
 | k + 1, x5, x7 => if x7 ≥ 5 then (if 0 ≤ (IntKind.u64.wrap (x7)) then (if (Go.bits .and .i64 (shr .i64 x5 (IntKind.u64.wrap (x7))) 1) = 1 then (if 0 ≤ (IntKind.u64.wrap (wrap64 (x7 - 5))) then (ka_.l1 k (Go.bits .xor .i64 x5 (shl .i64 37 (IntKind.u64.wrap (wrap64 (x7 - 5))))) (wrap64 (x7 - 1))) else (none)) else (ka_.l1 k x5 (wrap64 (x7 - 1)))) else (none)) else (some x5)
end
def ka_.f (k : Nat) (a0 : Int) (a1 : Int) : Option (Int) := (dc_.f a0).bind fun t114 => (if t114 = true then ((dc_.f a1).bind fun t115 => (ka_.j0 k a0 a1 (!t115))) else (ka_.j0 k a0 a1 true))
theorem ka_.yc_ : ∀ k, (∀ y0 y1 y2, LeO (ka_.j0 k y0 y1 y2) (ka_.j0 (k + 1) y0 y1 y2)) ∧ (∀ y0 y1 y2 y3, LeO (ka_.l0 k y0 y1 y2 y3) (ka_.l0 (k + 1) y0 y1 y2 y3)) ∧ (∀ y0 y1, LeO (ka_.l1 k y0 y1) (ka_.l1 (k + 1) y0 y1))
 | 0 => ⟨fun _ _ _ r h => by simp [ka_.j0] at h, fun _ _ _ _ r h => by simp [ka_.l0] at h, fun _ _ r h => by simp [ka_.l1] at h⟩
 | k + 1 => by
  obtain ⟨ih0, ih1, ih2⟩ := ka_.yc_ k
  refine ⟨?_, ?_, ?_⟩
  ·intro y0 y1 y2
   unfold ka_.j0
   repeat' first
   | (with_reducible exact ih0 _ _ _)
   | (with_reducible exact ih1 _ _ _ _)
   | (with_reducible exact ih2 _ _)
   | (with_reducible first | exact LeO.refl _ | exact LeO.none _ | refine LeO.ite ?_ ?_ | refine LeO.bind ?_ (fun _ => ?_))
   | exact ih0 _ _ _
   | exact ih1 _ _ _ _
   | exact ih2 _ _
   | exact LeO.none _
   | refine LeO.ite ?_ ?_
   | refine LeO.bind ?_ (fun _ => ?_)
  ·intro y0 y1 y2 y3
   unfold ka_.l0
   repeat' first
   | (with_reducible exact ih0 _ _ _)
   | (with_reducible exact ih1 _ _ _ _)
   | (with_reducible exact ih2 _ _)
   | (with_reducible first | exact LeO.refl _ | exact LeO.none _ | refine LeO.ite ?_ ?_ | refine LeO.bind ?_ (fun _ => ?_))
   | exact ih0 _ _ _
   | exact ih1 _ _ _ _
   | exact ih2 _ _
   | exact LeO.none _
   | refine LeO.ite ?_ ?_
   | refine LeO.bind ?_ (fun _ => ?_)
  intro y0 y1
  unfold ka_.l1
  repeat' first
  | (with_reducible exact ih0 _ _ _)
  | (with_reducible exact ih1 _ _ _ _)
  | (with_reducible exact ih2 _ _)
  | (with_reducible first | exact LeO.refl _ | exact LeO.none _ | refine LeO.ite ?_ ?_ | refine LeO.bind ?_ (fun _ => ?_))
  | exact ih0 _ _ _
  | exact ih1 _ _ _ _
  | exact ih2 _ _
  | exact LeO.none _
  | refine LeO.ite ?_ ?_
  | refine LeO.bind ?_ (fun _ => ?_)
theorem ka_.mono : ∀ a0 a1 k, LeO (ka_.f k a0 a1) (ka_.f (k + 1) a0 a1) := by
 intro a0 a1 k
 obtain ⟨ih0, ih1, ih2⟩ := ka_.yc_ k
 unfold ka_.f
 repeat' first
   | (with_reducible exact ih0 _ _ _)
   | (with_reducible exact ih1 _ _ _ _)
   | (with_reducible exact ih2 _ _)
   | (with_reducible first | exact LeO.refl _ | exact LeO.none _ | refine LeO.ite ?_ ?_ | refine LeO.bind ?_ (fun _ => ?_))
   | exact ih0 _ _ _
   | exact ih1 _ _ _ _
   | exact ih2 _ _
   | exact LeO.none _
   | refine LeO.ite ?_ ?_
   | refine LeO.bind ?_ (fun _ => ?_)
set_option maxHeartbeats 8000000 in
set_option maxRecDepth 100000 in
theorem ka_.calls (k : Nat) (a0 : Int) (a1 : Int) (r : Int) (w : World) (h : ka_.f k a0 a1 = some r) :
  Calls Tryz.prog 120 #[.int .i64 a0, .int .i64 a1] w fun e w' => e = .returned (.int .i64 r) ∧ ja_ w w' := by
 have H : ((dc_.f a0).bind fun t114 => (if t114 = true then ((dc_.f a1).bind fun t115 => (ka_.j0 k a0 a1 (!t115))) else (ka_.j0 k a0 a1 true))) = some r := h
 clear h
 have HC3 := ba_.mk H
 clear H
 go_enter Tryz.func120, Tryz.ntmps120
 go_upto_region 1 with (fail)
 go_cut [15] (fun v15 wc => ∃ (kq : Nat) (x15_2 : Bool), v15 = .bool x15_2 ∧ ba_ (ka_.j0 kq a0 a1 x15_2 = some r) ∧ ba_ (kq ≤ k) ∧ ja_ w wc)
 case first =>
  have H := HC3.out
  clear HC3
  obtain ⟨t114, A4, H⟩ := Qk H
  try dsimp only at H
  by_cases c5 : t114 = true
  rotate_left
  ·replace c5 := Bool.eq_false_iff.mpr c5
   subst c5
   have H1 : (ka_.j0 k a0 a1 true) = some r := by rw [if_neg (show ¬ (false = true) by decide)] at H; exact H
   clear H
   have H := H1
   clear H1
   have H' := ba_.mk H
   clear H
   go_wp2_with (first | ((with_reducible refine ia_ (f := 84) rfl ?_); refine gc_ (some 9) rfl rfl Tryz.func84 Qb rfl #[.int .i64 a0] rfl Qj ?_; (with_reducible refine (dc_.calls a0 false _ A4.out).mono ?_); rintro e w' ⟨rfl, ⟨nd, rfl⟩⟩; refine ⟨_, rfl, ?_⟩))
   go_meet
   case rel => exact Xt
  subst c5
  have H1 : ((dc_.f a1).bind fun t115 => (ka_.j0 k a0 a1 (!t115))) = some r := by rw [if_pos rfl] at H; exact H
  clear H
  have H := H1
  clear H1
  obtain ⟨t115, A6, H⟩ := Qk H
  try dsimp only at H
  have H' := ba_.mk H
  clear H
  go_wp2_with (first | ((with_reducible refine ia_ (f := 84) rfl ?_); refine gc_ (some 9) rfl rfl Tryz.func84 Qb rfl #[.int .i64 a0] rfl Qj ?_; (with_reducible refine (dc_.calls a0 true _ A4.out).mono ?_); rintro e w' ⟨rfl, ⟨nd, rfl⟩⟩; refine ⟨_, rfl, ?_⟩) | (go_at_call 84; (with_reducible refine (dc_.calls a1 t115 _ A6.out).mono ?_); rintro e w' ⟨rfl, ⟨nd, rfl⟩⟩))
  go_meet
  case rel => exact ⟨_, (!t115), Qi, H', ⟨Xf⟩, Qp⟩
 case rest =>
  clear HC3
  try clear c1
  try clear p2
  try clear c5
  obtain ⟨kq, x15_2, rfl, HA, HJ2, ⟨mc2, rfl⟩⟩ := hcut
  cases kq with
  | zero => exact absurd HA.out (by simp [ka_.j0])
  | succ kj2 =>
   have H := HA.out
   clear HA
   simp only [ka_.j0] at H
   by_cases c7 : x15_2 = true
   ·subst c7
    have H1 : (some 0) = some r := by rw [if_pos rfl] at H; exact H
    clear H
    have H := H1
    clear H1
    obtain rfl := Option.some.inj H
    go_wp2
    go_ret
    exact ⟨Qi, Qp⟩
   replace c7 := Bool.eq_false_iff.mpr c7
   subst c7
   have H1 : (ka_.l0 kj2 a0 a1 0 0) = some r := by rw [if_neg (show ¬ (false = true) by decide)] at H; exact H
   clear H
   have H := H1
   clear H1
   have H' := ba_.mk H
   clear H
   go_wp2
   go_loopg [5, 6] kj2 (fun kq v5 v6 w' => ∃ (x5_2 : Int) (x6_2 : Int), v5 = .int .i64 x5_2 ∧ v6 = .int .i64 x6_2 ∧ ba_ (ka_.l0 kq a0 a1 x5_2 x6_2 = some r) ∧ ba_ (kq ≤ kj2) ∧ ja_ w w')
   case atStart => exact ⟨(0), (0), Qi, Qi, H', ⟨Nat.le_refl _⟩, Qp⟩
   case round =>
    clear H'
    try clear c1
    try clear c2
    try clear p2
    try clear c5
    try clear c7
    try clear p2
    obtain ⟨x5_2, x6_2, rfl, rfl, HA, HK2, ⟨m2, rfl⟩⟩ := hrel
    cases gk with
    | zero => exact absurd HA.out (by simp [ka_.l0])
    | succ k2 =>
     have H := HA.out
     clear HA
     simp only [ka_.l0] at H
     by_cases c8 : x6_2 < 5
     ·rw [if_pos c8] at H
      have c8b0 := decide_eq_true c8
      clear c8
      obtain ⟨ji9, hji9⟩ : ∃ j_ : Int, (IntKind.u64.wrap (x6_2)) = j_ := ⟨_, rfl⟩
      replace H : (if 0 ≤ (ji9) then (if (Go.bits .and .i64 (shr .i64 a1 (ji9)) 1) = 1 then (ka_.l0 k2 a0 a1 (Go.bits .xor .i64 x5_2 (shl .i64 a0 (ji9))) (wrap64 (x6_2 + 1))) else (ka_.l0 k2 a0 a1 x5_2 (wrap64 (x6_2 + 1)))) else (none)) = some r := by first | (rw [hji9] at H; exact H) | (simp only [hji9] at H ⊢; exact H)
      obtain ⟨c10, H⟩ := Qn H
      have c10b0 := eq_true c10
      have c10b1 := decide_eq_true c10
      clear c10
      obtain ⟨ji11, hji11⟩ : ∃ j_ : Int, (shr .i64 a1 (ji9)) = j_ := ⟨_, rfl⟩
      replace H : (if (Go.bits .and .i64 (ji11) 1) = 1 then (ka_.l0 k2 a0 a1 (Go.bits .xor .i64 x5_2 (shl .i64 a0 (ji9))) (wrap64 (x6_2 + 1))) else (ka_.l0 k2 a0 a1 x5_2 (wrap64 (x6_2 + 1)))) = some r := by first | (rw [hji11] at H; exact H) | (simp only [hji11] at H ⊢; exact H)
      have hji11_ : (a1 / 2 ^ min (ji9).toNat 64) = ji11 := hji11
      have hji11z : (ji9) ≤ 64 → (a1 / 2 ^ (ji9).toNat) = ji11 := cq_ hji11
      by_cases c12 : (Go.bits .and .i64 (ji11) 1) = 1
      rotate_left
      ·rw [if_neg c12] at H
       have c12b0 : ((Go.bits .and .i64 (ji11) 1) == 1) = false := beq_eq_false_iff_ne.mpr c12
       have c12b1 : ((Go.bits .and .i64 (ji11) 1) != 1) = true := bne_iff_ne.mpr c12
       have H' := ba_.mk H
       clear H
       go_wp2
       go_roundg k2
       case measure => exact X6
       case rel => exact ⟨(x5_2), (wrap64 (x6_2 + 1)), Qi, Qi, H', ⟨X7⟩, Qp⟩
      rw [if_pos c12] at H
      have c12b0 : ((Go.bits .and .i64 (ji11) 1) == 1) = true := beq_iff_eq.mpr c12
      have c12b1 : ((Go.bits .and .i64 (ji11) 1) != 1) = false := bne_eq_false_iff_eq.mpr c12
      clear c12
      have c13b0 := eq_true (of_decide_eq_true Qg : 0 ≤ (ji9))
      obtain ⟨ji14, hji14⟩ : ∃ j_ : Int, (shl .i64 a0 (ji9)) = j_ := ⟨_, rfl⟩
      replace H : (ka_.l0 k2 a0 a1 (Go.bits .xor .i64 x5_2 (ji14)) (wrap64 (x6_2 + 1))) = some r := by first | (rw [hji14] at H; exact H) | (simp only [hji14] at H ⊢; exact H)
      have hji14_ : (IntKind.i64.wrap (a0 * 2 ^ min (ji9).toNat 64)) = ji14 := hji14
      have hji14z : (ji9) ≤ 64 → (IntKind.i64.wrap (a0 * 2 ^ (ji9).toNat)) = ji14 := yu_ hji14
      have hji14y : (wrap64 (a0 * 2 ^ min (ji9).toNat 64)) = ji14 := (yb_ _).symm.trans hji14_
      have hji14x : (ji9) ≤ 64 → (wrap64 (a0 * 2 ^ (ji9).toNat)) = ji14 := fun h_ => (yb_ _).symm.trans (hji14z h_)
      have H' := ba_.mk H
      clear H
      go_wp2
      go_roundg k2
      case measure => exact X6
      case rel => exact ⟨(Go.bits .xor .i64 x5_2 (ji14)), (wrap64 (x6_2 + 1)), (by first | rfl | (simp; done) | (simp only [← hji14] <;> (first | rfl | simp)) | (simp [*]; done)), Qi, H', ⟨X7⟩, Qp⟩
     rw [if_neg c8] at H
     have c8b0 := decide_eq_false c8
     clear c8
     have H' := ba_.mk H
     clear H
     go_wp2
     go_loopg [5, 7] k2 (fun kq v5 v7 w' => ∃ (x5_3 : Int) (x7_3 : Int), v5 = .int .i64 x5_3 ∧ v7 = .int .i64 x7_3 ∧ ba_ (ka_.l1 kq x5_3 x7_3 = some r) ∧ ba_ (kq ≤ k2) ∧ ja_ w w')
     case atStart => exact ⟨(x5_2), (8), Qi, Qi, H', ⟨Nat.le_refl _⟩, Qp⟩
     case round =>
      clear H'
      try clear c1
      try clear c2
      try clear p2
      try clear c5
      try clear p6
      try clear c7
      try clear c8
      try clear c8b0
      try clear c10
      try clear c10b0
      try clear c10b1
      try clear c12
      try clear c12b0
      try clear c12b1
      try clear c13
      try clear c13b0
      try clear p2
      obtain ⟨x5_3, x7_3, rfl, rfl, HA, HK3, ⟨m3, rfl⟩⟩ := hrel
      cases gk with
      | zero => exact absurd HA.out (by simp [ka_.l1])
      | succ k3 =>
       have H := HA.out
       clear HA
       simp only [ka_.l1] at H
       by_cases c15 : x7_3 ≥ 5
       rotate_left
       ·rw [if_neg c15] at H
        have c15b0 : decide (5 ≤ x7_3) = false := decide_eq_false c15
        clear c15
        obtain rfl := Option.some.inj H
        go_wp2
        go_ret
        exact ⟨Qi, Qp⟩
       rw [if_pos c15] at H
       have c15b0 : decide (5 ≤ x7_3) = true := decide_eq_true c15
       clear c15
       obtain ⟨ji16, hji16⟩ : ∃ j_ : Int, (IntKind.u64.wrap (x7_3)) = j_ := ⟨_, rfl⟩
       replace H : (if 0 ≤ (ji16) then (if (Go.bits .and .i64 (shr .i64 x5_3 (ji16)) 1) = 1 then (if 0 ≤ (IntKind.u64.wrap (wrap64 (x7_3 - 5))) then (ka_.l1 k3 (Go.bits .xor .i64 x5_3 (shl .i64 37 (IntKind.u64.wrap (wrap64 (x7_3 - 5))))) (wrap64 (x7_3 - 1))) else (none)) else (ka_.l1 k3 x5_3 (wrap64 (x7_3 - 1)))) else (none)) = some r := by first | (rw [hji16] at H; exact H) | (simp only [hji16] at H ⊢; exact H)
       obtain ⟨c17, H⟩ := Qn H
       have c17b0 := eq_true c17
       have c17b1 := decide_eq_true c17
       clear c17
       obtain ⟨ji18, hji18⟩ : ∃ j_ : Int, (shr .i64 x5_3 (ji16)) = j_ := ⟨_, rfl⟩
       replace H : (if (Go.bits .and .i64 (ji18) 1) = 1 then (if 0 ≤ (IntKind.u64.wrap (wrap64 (x7_3 - 5))) then (ka_.l1 k3 (Go.bits .xor .i64 x5_3 (shl .i64 37 (IntKind.u64.wrap (wrap64 (x7_3 - 5))))) (wrap64 (x7_3 - 1))) else (none)) else (ka_.l1 k3 x5_3 (wrap64 (x7_3 - 1)))) = some r := by first | (rw [hji18] at H; exact H) | (simp only [hji18] at H ⊢; exact H)
       have hji18_ : (x5_3 / 2 ^ min (ji16).toNat 64) = ji18 := hji18
       have hji18z : (ji16) ≤ 64 → (x5_3 / 2 ^ (ji16).toNat) = ji18 := cq_ hji18
       by_cases c19 : (Go.bits .and .i64 (ji18) 1) = 1
       rotate_left
       ·rw [if_neg c19] at H
        have c19b0 : ((Go.bits .and .i64 (ji18) 1) == 1) = false := beq_eq_false_iff_ne.mpr c19
        have c19b1 : ((Go.bits .and .i64 (ji18) 1) != 1) = true := bne_iff_ne.mpr c19
        have H' := ba_.mk H
        clear H
        go_wp2
        go_roundg k3
        case measure => have := HJ2.out; have := HK2.out; have := HK3.out; omega
        case rel => exact ⟨(x5_3), (wrap64 (x7_3 - 1)), Qi, Qi, H', ⟨by have := HJ2.out; have := HK2.out; have := HK3.out; omega⟩, Qp⟩
       rw [if_pos c19] at H
       have c19b0 : ((Go.bits .and .i64 (ji18) 1) == 1) = true := beq_iff_eq.mpr c19
       have c19b1 : ((Go.bits .and .i64 (ji18) 1) != 1) = false := bne_eq_false_iff_eq.mpr c19
       clear c19
       obtain ⟨ji20, hji20⟩ : ∃ j_ : Int, (IntKind.u64.wrap (wrap64 (x7_3 - 5))) = j_ := ⟨_, rfl⟩
       replace H : (if 0 ≤ (ji20) then (ka_.l1 k3 (Go.bits .xor .i64 x5_3 (shl .i64 37 (ji20))) (wrap64 (x7_3 - 1))) else (none)) = some r := by first | (rw [hji20] at H; exact H) | (simp only [hji20] at H ⊢; exact H)
       obtain ⟨c21, H⟩ := Qn H
       have c21b0 := eq_true c21
       have c21b1 := decide_eq_true c21
       clear c21
       obtain ⟨ji22, hji22⟩ : ∃ j_ : Int, (shl .i64 37 (ji20)) = j_ := ⟨_, rfl⟩
       replace H : (ka_.l1 k3 (Go.bits .xor .i64 x5_3 (ji22)) (wrap64 (x7_3 - 1))) = some r := by first | (rw [hji22] at H; exact H) | (simp only [hji22] at H ⊢; exact H)
       have hji22_ : (IntKind.i64.wrap (37 * 2 ^ min (ji20).toNat 64)) = ji22 := hji22
       have hji22z : (ji20) ≤ 64 → (IntKind.i64.wrap (37 * 2 ^ (ji20).toNat)) = ji22 := yu_ hji22
       have hji22y : (wrap64 (37 * 2 ^ min (ji20).toNat 64)) = ji22 := (yb_ _).symm.trans hji22_
       have hji22x : (ji20) ≤ 64 → (wrap64 (37 * 2 ^ (ji20).toNat)) = ji22 := fun h_ => (yb_ _).symm.trans (hji22z h_)
       have H' := ba_.mk H
       clear H
       go_wp2
       go_roundg k3
       case measure => have := HJ2.out; have := HK2.out; have := HK3.out; omega
       case rel => exact ⟨(Go.bits .xor .i64 x5_3 (ji22)), (wrap64 (x7_3 - 1)), (by first | rfl | (simp; done) | (simp only [← hji22] <;> (first | rfl | simp)) | (simp [*]; done)), Qi, H', ⟨by have := HJ2.out; have := HK2.out; have := HK3.out; omega⟩, Qp⟩
def bc_.l0 : Nat → Int → Int → Option (Int)
 | 0, _, _ => none
 | k + 1, x0, x3 => if x3 < 32 then ((ka_.f k x0 x3).bind fun t116 => (if t116 = 1 then (some x3) else (bc_.l0 k x0 (wrap64 (x3 + 1))))) else (some 0)
def bc_.f (k : Nat) (a0 : Int) : Option (Int) := bc_.l0 k a0 1
theorem bc_.yc_ : ∀ k, (∀ y0 y1, LeO (bc_.l0 k y0 y1) (bc_.l0 (k + 1) y0 y1))
 | 0 => fun _ _ r h => by simp [bc_.l0] at h
 | k + 1 => by
  have ih0 := bc_.yc_ k
  intro y0 y1
  unfold bc_.l0
  repeat' first
  | (with_reducible exact ih0 _ _)
  | (with_reducible exact ka_.mono _ _ _)
  | (with_reducible first | exact LeO.refl _ | exact LeO.none _ | refine LeO.ite ?_ ?_ | refine LeO.bind ?_ (fun _ => ?_))
  | exact ih0 _ _
  | exact ka_.mono _ _ _
  | exact LeO.none _
  | refine LeO.ite ?_ ?_
  | refine LeO.bind ?_ (fun _ => ?_)
theorem bc_.mono : ∀ a0 k, LeO (bc_.f k a0) (bc_.f (k + 1) a0) := by
 intro a0 k
 have ih0 := bc_.yc_ k
 unfold bc_.f
 repeat' first
   | (with_reducible exact ih0 _ _)
   | (with_reducible exact ka_.mono _ _ _)
   | (with_reducible first | exact LeO.refl _ | exact LeO.none _ | refine LeO.ite ?_ ?_ | refine LeO.bind ?_ (fun _ => ?_))
   | exact ih0 _ _
   | exact ka_.mono _ _ _
   | exact LeO.none _
   | refine LeO.ite ?_ ?_
   | refine LeO.bind ?_ (fun _ => ?_)
set_option maxHeartbeats 8000000 in
set_option maxRecDepth 100000 in
theorem bc_.calls (k : Nat) (a0 : Int) (r : Int) (w : World) (h : bc_.f k a0 = some r) :
  Calls Tryz.prog 119 #[.int .i64 a0] w fun e w' => e = .returned (.int .i64 r) ∧ ja_ w w' := by
 have H : (bc_.l0 k a0 1) = some r := h
 clear h
 have H' := ba_.mk H
 clear H
 go_enter Tryz.func119, Tryz.ntmps119
 go_wp2
 go_loopg [3] k (fun kq v3 w' => ∃ (x3_1 : Int), v3 = .int .i64 x3_1 ∧ ba_ (bc_.l0 kq a0 x3_1 = some r) ∧ ba_ (kq ≤ k) ∧ ja_ w w')
 case atStart => exact ⟨(1), Qi, H', ⟨Nat.le_refl _⟩, Qp⟩
 case round =>
  clear H'
  try clear c1
  obtain ⟨x3_1, rfl, HA, HK1, ⟨m1, rfl⟩⟩ := hrel
  cases gk with
  | zero => exact absurd HA.out (by simp [bc_.l0])
  | succ k1 =>
   have H := HA.out
   clear HA
   simp only [bc_.l0] at H
   by_cases c2 : x3_1 < 32
   rotate_left
   ·exact Xo
   rw [if_pos c2] at H
   have c2b0 := decide_eq_true c2
   clear c2
   obtain ⟨t116, A3, H⟩ := Qk H
   try dsimp only at H
   by_cases c4 : t116 = 1
   ·rw [if_pos c4] at H
    have c4b0 : (t116 == 1) = true := beq_iff_eq.mpr c4
    have c4b1 : (t116 != 1) = false := bne_eq_false_iff_eq.mpr c4
    clear c4
    obtain rfl := Option.some.inj H
    go_wp2_with (first | ((with_reducible refine ia_ (f := 120) rfl ?_); refine gc_ (some 10) rfl rfl Tryz.func120 Qb rfl #[.int .i64 a0, .int .i64 x3_1] rfl Qj ?_; (with_reducible refine (ka_.calls k1 a0 x3_1 t116 _ A3.out).mono ?_); rintro e w' ⟨rfl, ⟨nd, rfl⟩⟩; refine ⟨_, rfl, ?_⟩))
    go_ret
    exact ⟨Qi, Qp⟩
   rw [if_neg c4] at H
   have c4b0 : (t116 == 1) = false := beq_eq_false_iff_ne.mpr c4
   have c4b1 : (t116 != 1) = true := bne_iff_ne.mpr c4
   have H' := ba_.mk H
   clear H
   go_wp2_with (first | ((with_reducible refine ia_ (f := 120) rfl ?_); refine gc_ (some 10) rfl rfl Tryz.func120 Qb rfl #[.int .i64 a0, .int .i64 x3_1] rfl Qj ?_; (with_reducible refine (ka_.calls k1 a0 x3_1 t116 _ A3.out).mono ?_); rintro e w' ⟨rfl, ⟨nd, rfl⟩⟩; refine ⟨_, rfl, ?_⟩))
   go_roundg k1
   case measure => have := HK1.out; omega
   case rel => exact Ya
end Go.Proofs.YtpkhgapifnjbeaaGreatDoor.B
end
section
namespace Go.Proofs.YtpkhgapifnjbeaaGreatDoor.B
open RowKit Zw.PrintWords Zw.PrintLast Zw.PrintMore
attribute [local go_sem] id_ kd_ vd_ wd_ bd_ cd_ jd_ ld_
end Go.Proofs.YtpkhgapifnjbeaaGreatDoor.B
end
section
namespace Go.Proofs.YtpkhgapifnjbeaaGreatDoor.Rs
def GF := Fin 32
namespace GF
def mulN (a b : Nat) : Nat :=
 let p := (if b &&& 1 = 0 then 0 else a) ^^^ (if b &&& 2 = 0 then 0 else 2 * a) ^^^ (if b &&& 4 = 0 then 0 else 4 * a) ^^^ (if b &&& 8 = 0 then 0 else 8 * a) ^^^ (if b &&& 16 = 0 then 0 else 16 * a)
 let p := if p &&& 256 = 0 then p else p ^^^ 296
 let p := if p &&& 128 = 0 then p else p ^^^ 148
 let p := if p &&& 64 = 0 then p else p ^^^ 74
 let p := if p &&& 32 = 0 then p else p ^^^ 37
 p % 32
instance : DecidableEq GF := inferInstanceAs (DecidableEq (Fin 32))
instance : Add GF := ⟨fun a b => ⟨(a.1 ^^^ b.1) % 32, Nat.mod_lt _ Qh⟩⟩
instance : Mul GF := ⟨fun a b => ⟨mulN a.1 b.1 % 32, Nat.mod_lt _ Qh⟩⟩
instance : OfNat GF 0 := ⟨⟨0, Qh⟩⟩
instance : OfNat GF 1 := ⟨⟨1, Qh⟩⟩
instance (p : GF → Prop) [h : DecidablePred p] : Decidable (∀ a, p a) := @Nat.decidableForallFin 32 p h
theorem add_comm : ∀ a b : GF, a + b = b + a := by decide +kernel
theorem mul_comm : ∀ a b : GF, a * b = b * a := by decide +kernel
theorem add_assoc : ∀ a b c : GF, a + b + c = a + (b + c) := by decide +kernel
theorem mul_assoc : ∀ a b c : GF, a * b * c = a * (b * c) := by decide +kernel
theorem mul_add : ∀ a b c : GF, a * (b + c) = a * b + a * c := by decide +kernel
theorem bh_ : ∀ a : GF, a + a = 0 := by decide +kernel
theorem add_zero : ∀ a : GF, a + 0 = a := by decide +kernel
theorem zero_add : ∀ a : GF, 0 + a = a := by decide +kernel
theorem mul_one : ∀ a : GF, a * 1 = a := by decide +kernel
theorem one_mul : ∀ a : GF, 1 * a = a := by decide +kernel
theorem mul_zero : ∀ a : GF, a * 0 = 0 := by decide +kernel
theorem zero_mul : ∀ a : GF, 0 * a = 0 := by decide +kernel
def sq (a : GF) : GF := a * a
def inv (a : GF) : GF := sq a * sq (sq a) * sq (sq (sq a)) * sq (sq (sq (sq a)))
theorem vb1_ : ∀ a : GF, a ≠ 0 → a * inv a = 1 := by decide +kernel
theorem add_mul (a b c : GF) : (a + b) * c = a * c + b * c := by rw [mul_comm, mul_add, mul_comm c a, mul_comm c b]
theorem mul_eq_zero : ∀ a b : GF, a * b = 0 → a = 0 ∨ b = 0 := by decide +kernel
theorem mul_ne_zero {a b : GF} (ha : a ≠ 0) (hb : b ≠ 0) : a * b ≠ 0 := fun h => (mul_eq_zero a b h).elim ha hb
theorem one_ne_zero : (1 : GF) ≠ 0 := by decide
theorem di_ {a b : GF} (h : a + b = 0) : a = b := by
 have : a + b + b = 0 + b := by rw [h]
 rwa [add_assoc, bh_, add_zero, zero_add] at this
instance : Std.Associative (α := GF) (· + ·) := ⟨add_assoc⟩
instance : Std.Commutative (α := GF) (· + ·) := ⟨add_comm⟩
instance : Std.Associative (α := GF) (· * ·) := ⟨mul_assoc⟩
instance : Std.Commutative (α := GF) (· * ·) := ⟨mul_comm⟩
def pw (x : GF) : Nat → GF
 | 0 => 1
 | n + 1 => pw x n * x
theorem lr_ (x : GF) (a b : Nat) : pw x (a + b) = pw x a * pw x b := by
 induction b with
 | zero => simp [pw, mul_one]
 | succ b ih => rw [← Nat.add_assoc]; simp only [pw, ih]; ac_rfl
theorem pw_mul (x : GF) (a b : Nat) : pw x (a * b) = pw (pw x a) b := by
 induction b with
 | zero => simp [pw]
 | succ b ih => rw [Nat.mul_succ, lr_, ih]; rfl
theorem rf1_ (x y : GF) (a : Nat) : pw (x * y) a = pw x a * pw y a := by
 induction a with
 | zero => simp [pw, mul_one]
 | succ b ih => simp only [pw, ih]; ac_rfl
theorem dn_ {x : GF} (h : x ≠ 0) (a : Nat) : pw x a ≠ 0 := by
 induction a with
 | zero => exact one_ne_zero
 | succ b ih => exact mul_ne_zero ih h
def al : GF := ⟨2, Qh⟩
def ex (n : Nat) : GF := pw al n
theorem ex_31 : ex 31 = 1 := by decide +kernel
theorem er_ (n : Nat) : ex n ≠ 0 := dn_ Qh n
theorem cb1_ (a b : Nat) : ex (a + b) = ex a * ex b := lr_ _ _ _
theorem db1_ (a b : Nat) : ex (a * b) = pw (ex a) b := pw_mul _ _ _
theorem ku_ (n : Nat) : pw 1 n = 1 := by
 induction n with
 | zero => rfl
 | succ n ih => simp only [pw, ih, mul_one]
theorem ot_ (n : Nat) : ex n = ex (n % 31) := by
 conv => lhs; rw [← Nat.div_add_mod n 31]
 rw [cb1_, db1_, ex_31, ku_, one_mul]
theorem sy_ : ∀ a : Fin 31, ∀ b : Fin 31, ex a = ex b → a = b := by decide +kernel
theorem nf1_ {a b : Nat} (ha : a < 31) (hb : b < 31) (h : ex a = ex b) : a = b := by
 have := sy_ ⟨a, ha⟩ ⟨b, hb⟩ h
 simpa using this
end GF
def toG (x : Int) : GF := ⟨x.toNat % 32, Nat.mod_lt _ Qh⟩
def ofG (a : GF) : Int := (a.1 : Nat)
def isEl (x : Int) : Bool := decide (0 ≤ x) && decide (x < 32)
def mulI (a b : Int) : Int := if isEl a && isEl b then ofG (toG a * toG b) else 0
def powI (n : Int) : Int := ofG (GF.ex (n % 31).toNat)
def invI (a : Int) : Int := if isEl a then ofG (GF.inv (toG a)) else 0
theorem ofG_lt (a : GF) : 0 ≤ ofG a ∧ ofG a < 32 := ⟨Int.natCast_nonneg _, by have := a.2; unfold ofG; omega⟩
theorem ug_ (a : GF) : toG (ofG a) = a := by
 apply Fin.ext
 show (ofG a).toNat % 32 = a.1
 have := a.2
 unfold ofG
 omega
theorem xg_ {x : Int} (h0 : 0 ≤ x) (h : x < 32) : ofG (toG x) = x := by
 show ((x.toNat % 32 : Nat) : Int) = x
 omega
theorem pg_ (a : GF) : isEl (ofG a) = true := by
 have := ofG_lt a
 simp [isEl, this.1, this.2]
theorem ge_ (x : Int) : isEl x = true ↔ 0 ≤ x ∧ x < 32 := by simp [isEl]
theorem qh1_ {a b : GF} (h : ofG a = ofG b) : a = b := by rw [← ug_ a, ← ug_ b, h]
theorem os_ (a b : GF) : mulI (ofG a) (ofG b) = ofG (a * b) := by simp [mulI, pg_, ug_]
theorem ns_ {a b : Int} (ha : isEl a = true) (hb : isEl b = true) : mulI a b = ofG (toG a * toG b) := by simp [mulI, ha, hb]
theorem ho_ : ofG 0 = 0 := rfl
theorem vl_ {a : GF} : ofG a = 0 ↔ a = 0 := ⟨fun h => qh1_ (h.trans ho_.symm), fun h => by rw [h]; rfl⟩
theorem rk_ (a b : Int) : isEl (mulI a b) = true := by
 unfold mulI
 split
 ·exact pg_ _
 ·decide
theorem mb1_ (n : Int) : isEl (powI n) = true := pg_ _
theorem lb1_ (a : Int) : isEl (invI a) = true := by
 unfold invI
 split
 ·exact pg_ _
 ·decide
end Go.Proofs.YtpkhgapifnjbeaaGreatDoor.Rs
end
section
namespace Go.Proofs.YtpkhgapifnjbeaaGreatDoor.G
open RowKit Zw.PrintWords Zw.PrintLast Zw.PrintMore Rs B
set_option maxRecDepth 100000
def xorI (a b : Int) : Int := Go.bits .xor .i64 a b
theorem pi1_ : ∀ a b : Fin 32, Go.bits .xor .i64 (a.1 : Int) (b.1 : Int) = ofG ((show GF from a) + (show GF from b)) := by decide +kernel
theorem zk_ (a b : GF) : xorI (ofG a) (ofG b) = ofG (a + b) := pi1_ a b
theorem uw_ {a b : Int} (ha : isEl a = true) (hb : isEl b = true) : xorI a b = ofG (toG a + toG b) := by
 have h1 := (ge_ a).1 ha
 have h2 := (ge_ b).1 hb
 rw [← zk_, xg_ h1.1 h1.2, xg_ h2.1 h2.2]
theorem uh1_ : ∀ m : Fin 31, rc_.l0 40 1 (m.1 : Int) 0 = some (ofG (GF.ex m.1)) := by decide +kernel
theorem tmod31 (n : Int) : Int.tmod (wrap64 (Int.tmod n 31 + 31)) 31 = n % 31 := by
 have h1 : n.tmod 31 < 31 := Int.tmod_lt_of_pos n Qh
 have h2 : -31 < n.tmod 31 := by
  have := Int.natAbs_tmod n 31
  have : (n.tmod 31).natAbs < 31 := by rw [this]; exact Nat.mod_lt _ Qh
  omega
 have h3 : wrap64 (Int.tmod n 31 + 31) = Int.tmod n 31 + 31 := by unfold wrap64; omega
 rw [h3, Int.tmod_eq_emod_of_nonneg Qa]
 have := Int.emod_def n 31
 have := Int.tmod_def n 31
 omega
theorem qs_ (n : Int) : rc_.f 40 n = some (powI n) := by
 unfold rc_.f powI
 rw [tmod31]
 have h1 : 0 ≤ n % 31 := Int.emod_nonneg _ Qh
 have h2 : n % 31 < 31 := Int.emod_lt_of_pos _ Qh
 have := uh1_ ⟨(n % 31).toNat, Qa⟩
 rw [show (((n % 31).toNat : Nat) : Int) = n % 31 from by omega] at this
 exact this
def logN (a : GF) : Nat := ((List.range 31).find? (fun i => GF.ex i = a)).getD 0
theorem kh1_ : ∀ a : GF, pa_.f 40 (ofG a) = some (logN a : Int) := by decide +kernel
theorem qf1_ : ∀ a : GF, a ≠ 0 → GF.ex (logN a) = a := by decide +kernel
theorem qb1_ : ∀ a : GF, logN a < 31 := by decide +kernel
theorem wh1_ (a b : GF) (ha : a ≠ 0) (hb : b ≠ 0) : powI ((logN a : Int) + logN b) = ofG (a * b) := by
 unfold powI
 rw [show (((logN a : Int) + logN b) % 31).toNat = (logN a + logN b) % 31 from by omega, ← GF.ot_, GF.cb1_, qf1_ a ha, qf1_ b hb]
theorem vh1_ : ∀ a : GF, a ≠ 0 → powI (-(logN a : Int)) = ofG (GF.inv a) := by decide +kernel
theorem cp_ (a : Int) : sc_.f a = some (isEl a) := by
 unfold sc_.f isEl
 by_cases h : 0 ≤ a <;> simp [h]
theorem log_f (a : Int) (h : isEl a = true) : pa_.f 40 a = some (logN (toG a) : Int) := by
 have h1 := (ge_ a).1 h
 have := kh1_ (toG a)
 rwa [xg_ h1.1 h1.2] at this
theorem hy_ {a : Int} (h : isEl a = true) (h0 : a ≠ 0) : toG a ≠ 0 := fun e => by
 have h1 := (ge_ a).1 h
 have h2 := xg_ h1.1 h1.2
 rw [e] at h2
 exact h0 h2.symm
theorem rj_ (b : Int) : mulI 0 b = 0 := by
 unfold mulI
 split
 ·rw [show toG 0 = 0 from rfl, GF.zero_mul]; rfl
 ·rfl
theorem az_ (b : Int) : mulI b 0 = 0 := by
 unfold mulI
 split
 ·rw [show toG 0 = 0 from rfl, GF.mul_zero]; rfl
 ·rfl
theorem oh1_ (k : Nat) (hl : ∀ a, isEl a = true → pa_.f k a = some (logN (toG a) : Int)) (hp : ∀ n, rc_.f k n = some (powI n)) (a b : Int) : wc_.f (k + 1) a b = some (mulI a b) := by
 unfold wc_.f
 rw [cp_]
 simp only [Option.bind_some]
 by_cases ha : isEl a = true
 rotate_left
 ·rw [if_neg ha]
  simp [wc_.j0, mulI, ha]
 rw [if_pos ha, cp_]
 simp only [Option.bind_some]
 by_cases hb : isEl b = true
 rotate_left
 ·rw [if_neg hb]
  simp [wc_.j0, mulI, hb]
 rw [if_pos hb]
 by_cases h0 : a = 0
 ·subst h0
  rw [if_pos rfl]
  simp [wc_.j0, rj_]
 rw [if_neg h0]
 by_cases h1 : b = 0
 ·subst h1
  simp [wc_.j0, az_]
 have e : (b == 0) = false := by simpa using h1
 have la := qb1_ (toG a)
 have lb := qb1_ (toG b)
 rw [e]
 simp only [wc_.j0]
 rw [if_neg Qh, hl a ha, hl b hb]
 simp only [Option.bind_some]
 rw [hp]
 simp only [Option.bind_some]
 rw [show wrap64 ((logN (toG a) : Int) + logN (toG b)) = (logN (toG a) : Int) + logN (toG b) from by unfold wrap64; omega, wh1_ _ _ (hy_ ha h0) (hy_ hb h1), ns_ ha hb]
theorem mul_f (a b : Int) : wc_.f 41 a b = some (mulI a b) := oh1_ 40 log_f qs_ a b
theorem aw_ (k : Nat) (hl : ∀ a, isEl a = true → pa_.f k a = some (logN (toG a) : Int)) (hp : ∀ n, rc_.f k n = some (powI n)) (a : Int) : uc_.f (k + 1) a = some (invI a) := by
 unfold uc_.f
 rw [cp_]
 simp only [Option.bind_some]
 by_cases ha : isEl a = true
 rotate_left
 ·rw [if_neg ha]
  simp [uc_.j0, invI, ha]
 rw [if_pos ha]
 by_cases h0 : a = 0
 ·subst h0
  rfl
 have e : (a == 0) = false := by simpa using h0
 have la := qb1_ (toG a)
 rw [e]
 simp only [uc_.j0]
 rw [if_neg Qh, hl a ha]
 simp only [Option.bind_some]
 rw [hp]
 simp only [Option.bind_some]
 rw [show wrap64 (-(logN (toG a) : Int)) = -(logN (toG a) : Int) from by unfold wrap64; omega, vh1_ _ (hy_ ha h0)]
 simp [invI, ha]
theorem wt_ (a : Int) : uc_.f 41 a = some (invI a) := aw_ 40 log_f qs_ a
end Go.Proofs.YtpkhgapifnjbeaaGreatDoor.G
end
section
namespace Go.Proofs.YtpkhgapifnjbeaaGreatDoor.G
open RowKit Zw.PrintWords
def powers : List Int := [1, 2, 4, 8, 16, 5, 10, 20, 13, 26, 17, 7, 14, 28, 29, 31, 27, 19, 3, 6, 12, 24, 21, 15, 30, 25, 23, 11, 22, 9, 18]
def js_.f (a0 : Int) : Option Int := some (powers.getD (a0 % 31).toNat 0)
def ql_ : Array Value := (powers.map (Value.int .i64)).toArray
theorem hu_ (m : Nat) (h : m < 31) : ql_[m]? = some (.int .i64 (powers.getD m 0)) := by
 show (powers.map (Value.int .i64)).toArray[m]? = _
 rw [List.getElem?_toArray, List.getElem?_map, List.getElem?_eq_getElem (show m < powers.length from h), List.getD_eq_getElem?_getD, List.getElem?_eq_getElem (show m < powers.length from h)]
 rfl
theorem hb1_ {x : Option (Array Value)} {y C : Array Value} (h : x = some y) (hy : y = C) : x.getD #[] = C := by rw [h]; exact hy
set_option maxHeartbeats 1000000 in
theorem jz_ (n : Int) (w : World) (h1 : n.tmod 31 < 0) (h2 : -31 < n.tmod 31) (C : Array Value) (hC : ql_ = C) (hs : (Tryz.prog.info? 152).map (·.size) = some C.size) (ho : C.all (·.oneCell') = true) (hz : (31 : Nat) = C.size) (v : Int) (hv : C[(n.tmod 31 + 31).toNat]? = some (.int .i64 v)) :
  Calls Tryz.prog 117 #[.int .i64 n] w fun e w' => e = .returned (.int .i64 v) ∧ Below w.heap.size w w' := by
 have HC := Lib.hid hC
 have HS := Lib.hid hs
 have HO := Lib.hid ho
 have HZ := Lib.hid hz
 clear hC hs ho hz
 go_enter Tryz.func117, Tryz.ntmps117
 go_wp2_with (first | (refine wpList_build rfl 152 _ rfl Qb ?_; rw [hb1_ (y := ql_) Qb HC.out]) | (refine wpList_store_row rfl 152 _ _ rfl w.heap.size C rfl rfl 152 _ (heap_alloc_new w _) HS.out HZ.out HO.out ?_; rw [World.setRow_alloc_new]))
 go_ret
 exact ⟨rfl, (Below.refl _ _).alloc (Nat.le_refl _) _⟩
set_option maxHeartbeats 1000000 in
theorem kz_ (n : Int) (w : World) (h1 : 0 ≤ n.tmod 31) (h2 : n.tmod 31 < 31) (C : Array Value) (hC : ql_ = C) (hs : (Tryz.prog.info? 152).map (·.size) = some C.size) (ho : C.all (·.oneCell') = true) (hz : (31 : Nat) = C.size) (v : Int) (hv : C[(n.tmod 31).toNat]? = some (.int .i64 v)) :
  Calls Tryz.prog 117 #[.int .i64 n] w fun e w' => e = .returned (.int .i64 v) ∧ Below w.heap.size w w' := by
 have HC := Lib.hid hC
 have HS := Lib.hid hs
 have HO := Lib.hid ho
 have HZ := Lib.hid hz
 clear hC hs ho hz
 have hn : ¬ n.tmod 31 < 0 := by omega
 go_enter Tryz.func117, Tryz.ntmps117
 go_wp2_with (first | (refine wpList_build rfl 152 _ rfl Qb ?_; rw [hb1_ (y := ql_) Qb HC.out]) | (refine wpList_store_row rfl 152 _ _ rfl w.heap.size C rfl rfl 152 _ (heap_alloc_new w _) HS.out HZ.out HO.out ?_; rw [World.setRow_alloc_new]))
 go_ret
 exact ⟨rfl, (Below.refl _ _).alloc (Nat.le_refl _) _⟩
theorem js_.calls (a0 : Int) (r : Int) (w : World) (h : js_.f a0 = some r) :
  Calls Tryz.prog 117 #[.int .i64 a0] w fun e w' => e = .returned (.int .i64 r) ∧ Below w.heap.size w w' := by
 obtain rfl := Option.some.inj h
 have h1 : a0.tmod 31 < 31 := Int.tmod_lt_of_pos a0 Qh
 have hs : (Tryz.prog.info? 152).map (·.size) = some ql_.size := by kernel_rfl
 have ho : ql_.all (·.oneCell') = true := by decide +kernel
 have hz : (31 : Nat) = ql_.size := rfl
 by_cases h0 : a0.tmod 31 < 0
 rotate_left
 ·have hp : a0 % 31 = a0.tmod 31 := by have := Int.emod_def a0 31; have := Int.tmod_def a0 31; omega
  rw [hp]
  exact kz_ a0 w Qa h1 ql_ rfl hs ho hz _ (hu_ _ Qa)
 have h2 : -31 < a0.tmod 31 := by
  have := Int.natAbs_tmod a0 31
  have : (a0.tmod 31).natAbs < 31 := by rw [this]; exact Nat.mod_lt _ Qh
  omega
 have hp : a0 % 31 = a0.tmod 31 + 31 := by have := Int.emod_def a0 31; have := Int.tmod_def a0 31; omega
 rw [hp]
 exact jz_ a0 w h0 h2 ql_ rfl hs ho hz _ (hu_ _ Qa)
end Go.Proofs.YtpkhgapifnjbeaaGreatDoor.G
end
section
namespace Go.Proofs.YtpkhgapifnjbeaaGreatDoor.G
open RowKit Zw.PrintWords Zw.PrintLast Zw.PrintMore Rs B
set_option maxRecDepth 100000
theorem nr_ (a : Int) : dc_.f a = some (isEl a) := by
 unfold dc_.f isEl
 by_cases h : 0 ≤ a <;> simp [h]
theorem ve1_ : ∀ a b : GF, ka_.j0 20 (ofG a) (ofG b) false = some (ofG (a * b)) := by decide +kernel
theorem uf1_ (a b : Int) : ka_.f 20 a b = some (mulI a b) := by
 unfold ka_.f
 rw [nr_]
 simp only [Option.bind_some]
 by_cases ha : isEl a = true
 rotate_left
 ·rw [if_neg ha]
  simp [ka_.j0, mulI, ha]
 rw [if_pos ha, nr_]
 simp only [Option.bind_some]
 by_cases hb : isEl b = true
 rotate_left
 ·rw [show isEl b = false from by simpa using hb]
  simp [ka_.j0, mulI, hb]
 rw [hb]
 have h1 := (ge_ a).1 ha
 have h2 := (ge_ b).1 hb
 have := ve1_ (toG a) (toG b)
 rw [xg_ h1.1 h1.2, xg_ h2.1 h2.2] at this
 rw [ns_ ha hb]
 exact this
theorem bi1_ (k : Nat) (hk : 20 ≤ k) (a b : Int) : ka_.f k a b = some (mulI a b) := by
 obtain ⟨d, rfl⟩ : ∃ d, k = 20 + d := ⟨k - 20, Qa⟩
 clear hk
 induction d with
 | zero => exact uf1_ a b
 | succ d ih => exact ka_.mono a b (20 + d) _ ih
theorem ue1_ : ∀ a : GF, a ≠ 0 → bc_.l0 60 (ofG a) 1 = some (ofG (GF.inv a)) := by decide +kernel
theorem vu_ (a : Int) (ha : ∀ b, mulI a b ≠ 1) : ∀ (d k : Nat) (x : Int), x = 32 - d → 0 ≤ x → 20 + d < k → bc_.l0 k a x = some 0 := by
 intro d
 induction d with
 | zero =>
  intro k x hx h0 hk
  obtain ⟨k, rfl⟩ : ∃ m, k = m + 1 := ⟨k - 1, Qa⟩
  simp only [bc_.l0]
  rw [if_neg Qa]
 | succ d ih =>
  intro k x hx h0 hk
  obtain ⟨k, rfl⟩ : ∃ m, k = m + 1 := ⟨k - 1, Qa⟩
  simp only [bc_.l0]
  rw [if_pos Qa, bi1_ k Qa]
  simp only [Option.bind_some]
  rw [if_neg (ha x), show wrap64 (x + 1) = x + 1 from by unfold wrap64; omega]
  exact ih k (x + 1) Qa Qa Qa
theorem sz_ (a : Int) : bc_.f 60 a = some (invI a) := by
 unfold bc_.f
 by_cases ha : isEl a = true
 rotate_left
 ·rw [vu_ a (fun b => by simp [mulI, ha]) 31 60 1 Qa Qa Qa]
  simp [invI, ha]
 by_cases h0 : a = 0
 ·subst h0
  rw [vu_ 0 (fun b => by rw [rj_]; decide) 31 60 1 Qa Qa Qa]
  rfl
 have h1 := (ge_ a).1 ha
 have := ue1_ (toG a) (hy_ ha h0)
 rw [xg_ h1.1 h1.2] at this
 rw [this]
 simp [invI, ha]
def xv_.f (a b : Int) : Option Int := some (mulI a b)
theorem xv_.calls (a0 a1 r : Int) (w : World) (h : xv_.f a0 a1 = some r) :
  Calls Tryz.prog 79 #[.int .i64 a0, .int .i64 a1] w fun e w' => e = .returned (.int .i64 r) ∧ ja_ w w' := wc_.calls 41 a0 a1 r w ((mul_f a0 a1).trans h)
def zm_.f (n : Int) : Option Int := some (powI n)
theorem zm_.calls (a0 r : Int) (w : World) (h : zm_.f a0 = some r) :
  Calls Tryz.prog 80 #[.int .i64 a0] w fun e w' => e = .returned (.int .i64 r) ∧ ja_ w w' := rc_.calls 40 a0 r w ((qs_ a0).trans h)
def st_.f (n : Int) : Option Int := some (invI n)
theorem st_.calls (a0 r : Int) (w : World) (h : st_.f a0 = some r) :
  Calls Tryz.prog 158 #[.int .i64 a0] w fun e w' => e = .returned (.int .i64 r) ∧ ja_ w w' := uc_.calls 41 a0 r w ((wt_ a0).trans h)
def fh_.f (a b : Int) : Option Int := some (xorI a b)
theorem fh_.calls (a0 a1 r : Int) (w : World) (h : fh_.f a0 a1 = some r) :
  Calls Tryz.prog 115 #[.int .i64 a0, .int .i64 a1] w fun e w' => e = .returned (.int .i64 r) ∧ ja_ w w' := kj_.calls a0 a1 r w h
def ig_.f (a b : Int) : Option Int := some (mulI a b)
theorem ig_.calls (a0 a1 r : Int) (w : World) (h : ig_.f a0 a1 = some r) :
  Calls Tryz.prog 116 #[.int .i64 a0, .int .i64 a1] w fun e w' => e = .returned (.int .i64 r) ∧ ja_ w w' :=
 ef_.calls 41 a0 a1 r w (by unfold ef_.f; rw [mul_f]; exact h)
def jp_.f (a : Int) : Option Int := some (invI a)
theorem jp_.calls (a0 r : Int) (w : World) (h : jp_.f a0 = some r) :
  Calls Tryz.prog 157 #[.int .i64 a0] w fun e w' => e = .returned (.int .i64 r) ∧ ja_ w w' :=
 we_.calls 41 a0 r w (by unfold we_.f; rw [wt_]; exact h)
def atI (len : Nat) (place n : Int) : Int := powI (wrap64 (n * wrap64 (wrap64 ((len : Int) - 1) - place)))
def g_at.f (l0 : List Int) (a1 a2 : Int) : Option Int := some (atI l0.length a1 a2)
theorem g_at.calls (A0 : Option Addr) (c0 : Nat) (l0 : List Int) (a1 a2 r : Int) (w : World) (hr0 : Kd.C (Kd.int .i64) w A0 l0.length l0) (hc0 : l0.length ≤ c0) (h : g_at.f l0 a1 a2 = some r) :
  Calls Tryz.prog 95 #[.slice A0 l0.length c0, .int .i64 a1, .int .i64 a2] w fun e w' => e = .returned (.int .i64 r) ∧ ja_ w w' :=
 ki_.calls 40 A0 c0 l0 a1 a2 r w hr0 hc0 (by unfold ki_.f; rw [qs_]; exact h)
def ss_.f (a b : Int) : Option Int := some (mulI a b)
theorem ss_.calls (a0 a1 r : Int) (w : World) (h : ss_.f a0 a1 = some r) :
  Calls Tryz.prog 120 #[.int .i64 a0, .int .i64 a1] w fun e w' => e = .returned (.int .i64 r) ∧ ja_ w w' := ka_.calls 20 a0 a1 r w ((uf1_ a0 a1).trans h)
def vp_.f (a : Int) : Option Int := some (invI a)
theorem vp_.calls (a0 r : Int) (w : World) (h : vp_.f a0 = some r) :
  Calls Tryz.prog 119 #[.int .i64 a0] w fun e w' => e = .returned (.int .i64 r) ∧ ja_ w w' := bc_.calls 60 a0 r w ((sz_ a0).trans h)
theorem iz_ : ∀ m : Fin 31, powers.getD m.1 0 = ofG (GF.ex m.1) := by decide +kernel
theorem ec1_ (n : Int) : powers.getD (n % 31).toNat 0 = powI n := by
 have h1 : 0 ≤ n % 31 := Int.emod_nonneg _ Qh
 have h2 : n % 31 < 31 := Int.emod_lt_of_pos _ Qh
 exact iz_ ⟨(n % 31).toNat, Qa⟩
def cj_.f (n : Int) : Option Int := some (powI n)
theorem cj_.calls (a0 r : Int) (w : World) (h : cj_.f a0 = some r) :
  Calls Tryz.prog 117 #[.int .i64 a0] w fun e w' => e = .returned (.int .i64 r) ∧ Below w.heap.size w w' :=
 js_.calls a0 r w ((congrArg some (ec1_ a0)).trans h)
end Go.Proofs.YtpkhgapifnjbeaaGreatDoor.G
end
section
namespace Go.Proofs.YtpkhgapifnjbeaaGreatDoor.G
open RowKit Zw.PrintWords Zw.PrintLast Zw.PrintMore
theorem kf1_ {W : World} {e g base : Nat} {ok : Nat → Prop} (xs : List Int) (hg : W.heap[g]? = some (.cells (nums .i64 xs).toArray e (0, 0))) (hb : base ≤ g) (hok : ok g) (hm : xs.length ≤ 1000) :
  Kd.R (Kd.int .i64) e W base ok (.slice (some ⟨g, 0, none⟩) xs.length xs.length) xs := by
 refine Kd.zn_ ⟨by simp [encs], .inr ⟨g, xs.length, _, rfl, hb, hg, Nat.le_refl _, by unfold maxLen; omega, by simp [nums], ?_⟩⟩ (fun k hk => by simp [Value.ownBlock] at hk; exact hk ▸ hok)
 rw [Nat.mul_one]
 exact List.take_of_length_le (by simp [nums])
theorem so_ {W : World} {e g base n : Nat} {ok : Nat → Prop} {xs : List Int} (h : Kd.R (Kd.int .i64) e W base ok (.slice (some ⟨g, 0, none⟩) n n) xs) (hn : 0 < n) :
  W.heap[g]? = some (.cells (nums .i64 xs).toArray e (0, 0)) ∧ xs.length = n := by
 have hl : xs.length = n := by
  obtain ⟨A, c, he⟩ := Kd.pd_ h
  injection he with _ h2 _
  exact h2.symm
 subst hl
 have ho := (Kd.jl_ h).2
 rcases ho with ⟨he, _⟩ | ⟨g', cap, cur, he, hb, hg, h1, h2, h3, h4⟩
 ·injection he with h5 _ _
  cases h5
 injection he with h5 h6 h7
 injection h5 with h5
 injection h5 with h5 _ _
 subst h5
 subst h7
 refine ⟨?_, rfl⟩
 rw [hg]
 congr 2
 apply Array.ext'
 rw [← show encs (Value.int .i64) xs = nums .i64 xs from rfl, ← h4]
 show cur.toList = _
 simp only [List.toList_toArray]
 rw [List.take_of_length_le]
 simp; omega
end Go.Proofs.YtpkhgapifnjbeaaGreatDoor.G
end
section
namespace Go.Proofs.YtpkhgapifnjbeaaGreatDoor.S
open RowKit G Zw.PrintWords Zw.PrintLast Zw.PrintMore
attribute [local go_sem] id_ kd_ vd_ wd_ bd_ cd_ jd_ ld_
def errW : Option Int → Value
 | none => .nilIface
 | some c => .iface 0 (.int .i64 c)
theorem ta_ : errW none = .nilIface := rfl
theorem ua_ (c : Int) : errW (some c) = .iface 0 (.int .i64 c) := rfl
theorem mn_ : (Tryz.prog.info? 87).map (fun i => (i.zero, i.size, i.bytes)) = some (some (.int .i64 0), 1, 8) := by kernel_rfl
end Go.Proofs.YtpkhgapifnjbeaaGreatDoor.S
end
section
namespace Go.Proofs.YtpkhgapifnjbeaaGreatDoor.S
open RowKit G Zw.PrintWords Zw.PrintLast Zw.PrintMore
attribute [local go_sem] id_ kd_ vd_ wd_ bd_ cd_ jd_ ld_
def nc_.f (a0 : Int) : Option (Int) := if (wrap64 (a0 * 2)) ≥ 32 then (some (Go.bits .xor .i64 (wrap64 (a0 * 2)) 37)) else (some (wrap64 (a0 * 2)))
set_option maxHeartbeats 8000000 in
set_option maxRecDepth 100000 in
theorem nc_.calls (a0 : Int) (r : Int) (w : World) (h : nc_.f a0 = some r) :
  Calls Tryz.prog 114 #[.int .i64 a0] w fun e w' => e = .returned (.int .i64 r) ∧ ja_ w w' := by
 have H : (if (wrap64 (a0 * 2)) ≥ 32 then (some (Go.bits .xor .i64 (wrap64 (a0 * 2)) 37)) else (some (wrap64 (a0 * 2)))) = some r := h
 clear h
 by_cases c2 : (wrap64 (a0 * 2)) ≥ 32
 ·exact Xg
 ·exact Xh
def sc_.f (a0 : Int) : Option (Bool) := if a0 ≥ 0 then (some (decide (a0 < 32))) else (some false)
set_option maxHeartbeats 8000000 in
set_option maxRecDepth 100000 in
theorem sc_.calls (a0 : Int) (r : Bool) (w : World) (h : sc_.f a0 = some r) :
  Calls Tryz.prog 112 #[.int .i64 a0] w fun e w' => e = .returned (.bool r) ∧ ja_ w w' := by
 have H : (if a0 ≥ 0 then (some (decide (a0 < 32))) else (some false)) = some r := h
 clear h
 by_cases c2 : a0 ≥ 0
 ·exact Xx
 ·exact Xy
def pa_.l0 : Nat → Int → Int → Int → Option (Int)
 | 0, _, _, _ => none
 | k + 1, x0, x3, x5 => if x5 < 31 then (if x3 = x0 then (some x5) else ((nc_.f x3).bind fun t101 => (pa_.l0 k x0 t101 (wrap64 (x5 + 1))))) else (some 0)
def pa_.f (k : Nat) (a0 : Int) : Option (Int) := pa_.l0 k a0 1 0
theorem pa_.yc_ : ∀ k, (∀ y0 y1 y2, LeO (pa_.l0 k y0 y1 y2) (pa_.l0 (k + 1) y0 y1 y2))
 | 0 => fun _ _ _ r h => by simp [pa_.l0] at h
 | k + 1 => by
  have ih0 := pa_.yc_ k
  intro y0 y1 y2
  unfold pa_.l0
  repeat' first
  | (with_reducible exact ih0 _ _ _)
  | (with_reducible first | exact LeO.refl _ | exact LeO.none _ | refine LeO.ite ?_ ?_ | refine LeO.bind ?_ (fun _ => ?_))
  | exact ih0 _ _ _
  | exact LeO.none _
  | refine LeO.ite ?_ ?_
  | refine LeO.bind ?_ (fun _ => ?_)
theorem pa_.mono : ∀ a0 k, LeO (pa_.f k a0) (pa_.f (k + 1) a0) := by
 intro a0 k
 have ih0 := pa_.yc_ k
 unfold pa_.f
 repeat' first
   | (with_reducible exact ih0 _ _ _)
   | (with_reducible first | exact LeO.refl _ | exact LeO.none _ | refine LeO.ite ?_ ?_ | refine LeO.bind ?_ (fun _ => ?_))
   | exact ih0 _ _ _
   | exact LeO.none _
   | refine LeO.ite ?_ ?_
   | refine LeO.bind ?_ (fun _ => ?_)
set_option maxHeartbeats 8000000 in
set_option maxRecDepth 100000 in
theorem pa_.calls (k : Nat) (a0 : Int) (r : Int) (w : World) (h : pa_.f k a0 = some r) :
  Calls Tryz.prog 113 #[.int .i64 a0] w fun e w' => e = .returned (.int .i64 r) ∧ ja_ w w' := by
 have H : (pa_.l0 k a0 1 0) = some r := h
 clear h
 have H' := ba_.mk H
 clear H
 go_enter Tryz.func113, Tryz.ntmps113
 go_wp2
 go_loopg [3, 5] k (fun kq v3 v5 w' => ∃ (x3_1 : Int) (x5_1 : Int), v3 = .int .i64 x3_1 ∧ v5 = .int .i64 x5_1 ∧ ba_ (pa_.l0 kq a0 x3_1 x5_1 = some r) ∧ ba_ (kq ≤ k) ∧ ja_ w w')
 case atStart => exact Xs
 case round =>
  clear H'
  try clear c1
  obtain ⟨x3_1, x5_1, rfl, rfl, HA, HK1, ⟨m1, rfl⟩⟩ := hrel
  cases gk with
  | zero => exact absurd HA.out (by simp [pa_.l0])
  | succ k1 =>
   have H := HA.out
   clear HA
   simp only [pa_.l0] at H
   by_cases c2 : x5_1 < 31
   rotate_left
   ·exact Xo
   rw [if_pos c2] at H
   have c2b0 := decide_eq_true c2
   clear c2
   by_cases c3 : x3_1 = a0
   ·exact Xz
   rw [if_neg c3] at H
   have c3b0 : (x3_1 == a0) = false := beq_eq_false_iff_ne.mpr c3
   have c3b1 : (x3_1 != a0) = true := bne_iff_ne.mpr c3
   obtain ⟨t101, A4, H⟩ := Qk H
   try dsimp only at H
   have H' := ba_.mk H
   clear H
   go_wp2_with (first | ((with_reducible refine ia_ (f := 114) rfl ?_); refine gc_ (some 13) rfl rfl Tryz.func114 Qb rfl #[.int .i64 x3_1] rfl Qj ?_; (with_reducible refine (nc_.calls x3_1 t101 _ A4.out).mono ?_); rintro e w' ⟨rfl, ⟨nd, rfl⟩⟩; refine ⟨_, rfl, ?_⟩))
   go_roundg k1
   case measure => have := HK1.out; omega
   case rel => exact ⟨(t101), (wrap64 (x5_1 + 1)), Qi, Qi, H', ⟨Qw⟩, Qp⟩
mutual
def ub_.l0 : Nat → List Int → List Int → List Int → Int → Int → Option (List Int)
 | 0, _, _, _, _, _ => none
 | k + 1, x0, x3, x7, x8, x9 => if x9 < x8 then (if 0 ≤ x9 then (if x9 < (x7.length : Int) then (ub_.l1 k x0 x3 x9 (rd x7 x9) x7 x8 x9 0) else (none)) else (none)) else (some x3)
def ub_.l1 : Nat → List Int → List Int → Int → Int → List Int → Int → Int → Int → Option (List Int)
 | 0, _, _, _, _, _, _, _, _ => none
 | k + 1, x0, x3, x4, x5, x7, x8, x9, x14 => if x14 < 6 then (if 0 ≤ x14 then (if x14 < (x3.length : Int) then ((zm_.f (wrap64 ((wrap64 (x14 + 1)) * (wrap64 ((wrap64 ((x0.length : Int) - 1)) - x4))))).bind fun t107 => ((xv_.f (mx x5 0) t107).bind fun t108 => (ub_.l1 k x0 (x3.set (x14 : Int).toNat (Go.bits .xor .i64 (rd x3 x14) t108)) x4 x5 x7 x8 x9 (wrap64 (x14 + 1))))) else (none)) else (none)) else (ub_.l0 k x0 x3 x7 x8 (wrap64 (x9 + 1)))
end
def ub_.f (k : Nat) (l0 : List Int) : Option (List Int) := if 6 ≤ 35184372088832 then (ub_.l0 k l0 (List.replicate 6 0) l0 (l0.length : Int) 0) else (none)
theorem ub_.yc_ : ∀ k, (∀ y0 y1 y2 y3 y4, LeO (ub_.l0 k y0 y1 y2 y3 y4) (ub_.l0 (k + 1) y0 y1 y2 y3 y4)) ∧ (∀ y0 y1 y2 y3 y4 y5 y6 y7, LeO (ub_.l1 k y0 y1 y2 y3 y4 y5 y6 y7) (ub_.l1 (k + 1) y0 y1 y2 y3 y4 y5 y6 y7))
 | 0 => ⟨fun _ _ _ _ _ r h => by simp [ub_.l0] at h, fun _ _ _ _ _ _ _ _ r h => by simp [ub_.l1] at h⟩
 | k + 1 => by
  obtain ⟨ih0, ih1⟩ := ub_.yc_ k
  refine ⟨?_, ?_⟩
  ·intro y0 y1 y2 y3 y4
   unfold ub_.l0
   repeat' first
   | (with_reducible exact ih0 _ _ _ _ _)
   | (with_reducible exact ih1 _ _ _ _ _ _ _ _)
   | (with_reducible first | exact LeO.refl _ | exact LeO.none _ | refine LeO.ite ?_ ?_ | refine LeO.bind ?_ (fun _ => ?_))
   | exact ih0 _ _ _ _ _
   | exact ih1 _ _ _ _ _ _ _ _
   | exact LeO.none _
   | refine LeO.ite ?_ ?_
   | refine LeO.bind ?_ (fun _ => ?_)
  intro y0 y1 y2 y3 y4 y5 y6 y7
  unfold ub_.l1
  repeat' first
  | (with_reducible exact ih0 _ _ _ _ _)
  | (with_reducible exact ih1 _ _ _ _ _ _ _ _)
  | (with_reducible first | exact LeO.refl _ | exact LeO.none _ | refine LeO.ite ?_ ?_ | refine LeO.bind ?_ (fun _ => ?_))
  | exact ih0 _ _ _ _ _
  | exact ih1 _ _ _ _ _ _ _ _
  | exact LeO.none _
  | refine LeO.ite ?_ ?_
  | refine LeO.bind ?_ (fun _ => ?_)
theorem ub_.mono : ∀ a0 k, LeO (ub_.f k a0) (ub_.f (k + 1) a0) := by
 intro a0 k
 obtain ⟨ih0, ih1⟩ := ub_.yc_ k
 unfold ub_.f
 repeat' first
   | (with_reducible exact ih0 _ _ _ _ _)
   | (with_reducible exact ih1 _ _ _ _ _ _ _ _)
   | (with_reducible first | exact LeO.refl _ | exact LeO.none _ | refine LeO.ite ?_ ?_ | refine LeO.bind ?_ (fun _ => ?_))
   | exact ih0 _ _ _ _ _
   | exact ih1 _ _ _ _ _ _ _ _
   | exact LeO.none _
   | refine LeO.ite ?_ ?_
   | refine LeO.bind ?_ (fun _ => ?_)
def ub_.T8 : Bool × List (List Nat × List Nat) := (true, [([], []), ([0], [0]), ([1], [1]), ([], []), ([3], [3]), ([], []), ([5], [5]), ([], []), ([7], [7]), ([8], [8]), ([], []), ([9, 10], [9, 10]), ([6, 11], [6, 11]), ([12], [12]), ([4, 13, 13], [4, 13]), ([2, 14], [2, 14]), ([0, 0, 1, 2, 3, 4, 5, 6, 7, 8, 9, 10, 11, 12, 13, 14, 15], [0]), ([16, 15, 14, 0, 1, 2, 3, 4, 5, 6, 7, 8, 9, 10, 11, 12, 13, 14, 15], [15, 16])])
def ub_.B8 : List Nat := [0, 1, 3, 0, 8, 0, 32, 0, 128, 384, 0, 1920, 4064, 8160, 16376, 32767, 65535, 131071]
theorem ub_.tab8 : rtab .any (opsOf Tryz.f45 8) = ub_.T8 := by kernel_rfl
theorem ub_.kv_ : vg_ ub_.T8.2 ub_.B8 = true := by kernel_rfl
set_option maxHeartbeats 8000000 in
set_option maxRecDepth 100000 in
theorem ub_.calls (k : Nat) (A0 : Option Addr) (c0 : Nat) (l0 : List Int) (r : List Int) (w : World) (hr0 : Kd.C (Kd.int .i64) w A0 l0.length l0) (hc0 : l0.length ≤ c0) (h : ub_.f k l0 = some r) :
  Calls Tryz.prog 45 #[.slice A0 l0.length c0] w fun e w' => e = .returned (.agg (nums .i64 r).toArray) ∧ Below w.heap.size w w' := by
 have HR0 := ba_.mk hr0
 have HC0 := ba_.mk hc0
 clear hr0 hc0
 have HB := ba_.mk (Below.refl w.heap.size w)
 have H : (if 6 ≤ 35184372088832 then (ub_.l0 k l0 (List.replicate 6 0) l0 (l0.length : Int) 0) else (none)) = some r := h
 clear h
 obtain ⟨c2, H⟩ := Qn H
 have c2b0 := eq_true c2
 have c2b1 := decide_eq_true c2
 clear c2
 obtain ⟨y102, hy102⟩ : ∃ y_ : List Int, y_ = (List.replicate 6 0) := ⟨_, rfl⟩
 replace H : (ub_.l0 k l0 y102 l0 (l0.length : Int) 0) = some r := by first | (rw [hy102]; with_reducible exact H) | (have H2_ := (Option.bind_some _ _).symm.trans H; rw [hy102]; with_reducible exact H2_) | (have H2_ := (Option.bind_some _ _).symm.trans H; with_reducible exact H2_) | with_reducible exact H | (rw [hy102]; exact H) | exact H
 have Ny102 := ba_.mk hy102
 clear hy102
 have H' := ba_.mk H
 clear H
 go_enter Tryz.func45, Tryz.ntmps45
 go_wp2
 have n0_ := ba_.mk (show Kd.R (Kd.int .i64) 88 ((w.alloc (.cells #[.int .i64 0, .int .i64 0, .int .i64 0, .int .i64 0, .int .i64 0, .int .i64 0] 88)).alloc (.cells #[.int .i64 0, .int .i64 0, .int .i64 0, .int .i64 0, .int .i64 0, .int .i64 0] 88)) w.heap.size (fun k_ => k_ ≠ w.heap.size) (.slice (some ⟨w.heap.size + 1, 0, none⟩) 6 6) y102 from by rw [Ny102.out]; exact kf1_ (List.replicate 6 0) (heap_alloc2_new w _ _) Qa Qa Qh)
 have HZ := ba_.mk (show ((w.alloc (.cells #[.int .i64 0, .int .i64 0, .int .i64 0, .int .i64 0, .int .i64 0, .int .i64 0] 88)).alloc (.cells #[.int .i64 0, .int .i64 0, .int .i64 0, .int .i64 0, .int .i64 0, .int .i64 0] 88)).heap[w.heap.size]? = some (.cells #[.int .i64 0, .int .i64 0, .int .i64 0, .int .i64 0, .int .i64 0, .int .i64 0] 88 (0, 0)) from heap_alloc2_old w _ _)
 have HO104 := n0_
 clear n0_
 go_loopg [9] k (fun kq v9 w' => ∃ (x3_1 : List Int) (x9_1 : Int), v9 = .int .i64 x9_1 ∧ ba_ (ub_.l0 kq l0 x3_1 l0 (l0.length : Int) x9_1 = some r) ∧ ba_ (kq ≤ k) ∧ ba_ (Kd.R (Kd.int .i64) 88 w' w.heap.size (fun k_ => k_ ≠ w.heap.size) (.slice (some ⟨w.heap.size + 1, 0, none⟩) 6 6) x3_1) ∧ ba_ (w'.heap[w.heap.size]? = some (.cells #[.int .i64 0, .int .i64 0, .int .i64 0, .int .i64 0, .int .i64 0, .int .i64 0] 88 (0, 0))) ∧ ba_ (Below w.heap.size w w'))
 case atStart => exact ⟨(y102), (0), Qi, H', ⟨Nat.le_refl _⟩, ⟨HO104.out⟩, ⟨Ye⟩, ⟨Qe⟩⟩
 case round =>
  clear H'
  try clear c2
  try clear c2b0
  try clear c2b1
  try clear p2
  try clear c4
  obtain ⟨x3_1, x9_1, rfl, HA, HK1, HO_3, HZ, HB⟩ := hrel
  cases gk with
  | zero => exact absurd HA.out (by simp [ub_.l0])
  | succ k1 =>
   have H := HA.out
   clear HA
   simp only [ub_.l0] at H
   by_cases c5 : x9_1 < (l0.length : Int)
   rotate_left
   ·rw [if_neg c5] at H
    have c5b0 := decide_eq_false c5
    clear c5
    have HR9 := ba_.mk (Option.some.inj H)
    clear H
    have HB3 := ba_.mk (so_ HO_3.out Qh).1
    have HL3 := ba_.mk (so_ HO_3.out Qh).2
    have HS3 := ba_.mk (show (Tryz.prog.info? 88).map (·.size) = some (nums .i64 x3_1).toArray.size from by rw [show (nums .i64 x3_1).toArray.size = 6 from by simp [nums, HL3.out]]; kernel_rfl)
    have HT3 := ba_.mk (show (6 : Nat) = (nums .i64 x3_1).toArray.size from by simp [nums, HL3.out])
    have HU3 := ba_.mk (show (nums .i64 x3_1).toArray.all (·.oneCell') = true from by simp [nums, Value.oneCell'])
    go_wp2_with (first | (refine wpList_load_row rfl 88 _ rfl (w.heap.size + 1) rfl 88 (nums .i64 x3_1).toArray (0, 0) _ HB3.out Tryz.underlying88 rfl HS3.out ?_) | (refine wpList_store_row rfl 88 _ _ rfl w.heap.size (nums .i64 x3_1).toArray rfl rfl 88 _ HZ.out HS3.out HT3.out HU3.out ?_))
    refine bodyPost_ret (v := .agg (nums .i64 x3_1).toArray) (results_cell_row rfl _ _ w.heap.size 88 _ (0, 0) _ rfl (setRow_heap _ _ _ _ _ _ HZ.out) Tryz.underlying88 rfl HS3.out) rfl ⟨by rw [HR9.out], below_setRow HB.out (Nat.le_refl _) _⟩
   rw [if_pos c5] at H
   have c5b0 := decide_eq_true c5
   clear c5
   obtain ⟨c6, H⟩ := Qn H
   have c6b0 := decide_eq_true c6
   clear c6
   obtain ⟨c7, H⟩ := Qn H
   have c7b0 := decide_eq_true c7
   clear c7
   have H' := ba_.mk H
   clear H
   have p105 : 0 ≤ (x9_1 : Int) := of_decide_eq_true Qg
   have q105 : x9_1 < (l0.length : Int) := of_decide_eq_true Qg
   obtain ⟨ad105, e105, hx105_0⟩ := Kd.sd_ HR0.out x9_1 p105 q105
   cases e105
   replace hx105_0 := (HB.out.cell (World.block_lt_of_cell? w _ hx105_0)).trans hx105_0
   replace p105 := eq_true p105
   replace q105 := eq_true q105
   go_wp2
   go_loopg [14] k1 (fun kq v14 w' => ∃ (x3_2 : List Int) (x14_2 : Int), v14 = .int .i64 x14_2 ∧ ba_ (ub_.l1 kq l0 x3_2 x9_1 (rd l0 x9_1) l0 (l0.length : Int) x9_1 x14_2 = some r) ∧ ba_ (kq ≤ k1) ∧ ba_ (Kd.R (Kd.int .i64) 88 w' w.heap.size (fun k_ => k_ ≠ w.heap.size) (.slice (some ⟨w.heap.size + 1, 0, none⟩) 6 6) x3_2) ∧ ba_ (w'.heap[w.heap.size]? = some (.cells #[.int .i64 0, .int .i64 0, .int .i64 0, .int .i64 0, .int .i64 0, .int .i64 0] 88 (0, 0))) ∧ ba_ (Below w.heap.size w w'))
   case atStart => exact ⟨(x3_1), (0), Qi, H', ⟨Nat.le_refl _⟩, ⟨Yf⟩, ⟨Ye⟩, ⟨Qe⟩⟩
   case round =>
    clear H'
    try clear p1
    try clear q1
    try clear hx1
    try clear c2
    try clear c2b0
    try clear c2b1
    try clear p2
    try clear c4
    try clear c5
    try clear c5b0
    try clear c6
    try clear c6b0
    try clear c7
    try clear c7b0
    try clear hx105_0
    try clear p105
    try clear p2
    try clear q105
    obtain ⟨x3_2, x14_2, rfl, HA, HK2, HO_3, HZ, HB⟩ := hrel
    cases gk with
    | zero => exact absurd HA.out (by simp [ub_.l1])
    | succ k2 =>
     have H := HA.out
     clear HA
     simp only [ub_.l1] at H
     by_cases c8 : x14_2 < 6
     rotate_left
     ·rw [if_neg c8] at H
      have c8b0 := decide_eq_false c8
      clear c8
      have H' := ba_.mk H
      clear H
      go_wp2
      go_roundg k2
      case measure => exact Xi
      case rel => exact ⟨(x3_2), (wrap64 (x9_1 + 1)), Qi, H', ⟨Xj⟩, ⟨Yf⟩, ⟨Ye⟩, ⟨Qe⟩⟩
     rw [if_pos c8] at H
     have c8b0 := decide_eq_true c8
     clear c8
     obtain ⟨c9, H⟩ := Qn H
     have c9b0 := decide_eq_true c9
     clear c9
     obtain ⟨c10, H⟩ := Qn H
     have c10b0 := decide_eq_true c10
     clear c10
     obtain ⟨ji11, hji11⟩ : ∃ j_ : Int, (mx (rd l0 x9_1) 0) = j_ := ⟨_, rfl⟩
     replace H : ((zm_.f (wrap64 ((wrap64 (x14_2 + 1)) * (wrap64 ((wrap64 ((l0.length : Int) - 1)) - x9_1))))).bind fun t107 => ((xv_.f (ji11) t107).bind fun t108 => (ub_.l1 k2 l0 (x3_2.set (x14_2 : Int).toNat (Go.bits .xor .i64 (rd x3_2 x14_2) t108)) x9_1 (rd l0 x9_1) l0 (l0.length : Int) x9_1 (wrap64 (x14_2 + 1))))) = some r := by first | (rw [hji11] at H; exact H) | (simp only [hji11] at H ⊢; exact H)
     have hji11_ : (if (rd l0 x9_1) < 0 then 0 else (rd l0 x9_1)) = ji11 := hji11
     obtain ⟨t107, A12, H⟩ := Qk H
     try dsimp only at H
     obtain ⟨t108, A13, H⟩ := Qk H
     try dsimp only at H
     obtain ⟨y109, hy109⟩ : ∃ y_ : List Int, y_ = (x3_2.set (x14_2 : Int).toNat (Go.bits .xor .i64 (rd x3_2 x14_2) t108)) := ⟨_, rfl⟩
     replace H : (ub_.l1 k2 l0 y109 x9_1 (rd l0 x9_1) l0 (l0.length : Int) x9_1 (wrap64 (x14_2 + 1))) = some r := by first | (rw [hy109]; with_reducible exact H) | (have H2_ := (Option.bind_some _ _).symm.trans H; rw [hy109]; with_reducible exact H2_) | (have H2_ := (Option.bind_some _ _).symm.trans H; with_reducible exact H2_) | with_reducible exact H | (rw [hy109]; exact H) | exact H
     have Ny109 := ba_.mk hy109
     clear hy109
     have H' := ba_.mk H
     clear H
     try go_wp2
     have n0_ := ba_.mk (Kd.rb_ HO_3.out)
     have n1_ := ba_.mk (ca_ HB.out)
     have HZ := ba_.mk (show wr.drew.heap[w.heap.size]? = some (.cells #[.int .i64 0, .int .i64 0, .int .i64 0, .int .i64 0, .int .i64 0, .int .i64 0] 88 (0, 0)) from HZ.out)
     clear HO_3
     clear HB
     have HO_3 := n0_
     have HB := n1_
     clear n0_ n1_
     obtain ⟨Ao16, co16, eo16⟩ := Kd.pd_ HO_3.out
     (first | subst eo16 | (injection eo16 with f1_ f2_ f3_; have f4_ := f1_.symm; have f5_ := f3_.symm; clear f1_ f2_ f3_; subst f4_; subst f5_))
     have p106 : 0 ≤ (x14_2 : Int) := of_decide_eq_true Qg
     have q106 : x14_2 < (x3_2.length : Int) := of_decide_eq_true Qg
     obtain ⟨ad106, e106, hx106_0⟩ := Kd.sd_ (Kd.cc_ HO_3.out).2.2 x14_2 p106 q106
     cases e106
     simp only [add_plain] at hx106_0
     replace p106 := eq_true p106
     replace q106 := eq_true q106
     have q6_ := eq_true (show x14_2 < 6 from of_decide_eq_true c8b0)
     refine kh_ (n := 18) (S := fun w' => w'.cell? ⟨w.heap.size + 1, (x14_2).toNat, none⟩ = some (.int .i64 (rd x3_2 x14_2))) (ds := [17]) Qah Qb rfl rfl (hx106_0) (fun hHeld => ?_); refine lh_ ub_.tab8 ub_.kv_ (fun HT_ HW_ => ?_)
     generalize wr.drew = w15 at HO_3 HB HZ hx106_0 hHeld ⊢
     refine oc_ (i := 0) (N := some 17) (v := ?_) (a' := ?_) Qap rfl rfl Qm Qd (Or.inl ⟨by rfl, ?_⟩) ?_ ?_
     rotate_left
     ·exact Qf
     rotate_left
     ·exact Qc
     refine oc_ (i := 1) (N := some 18) (v := ?_) (a' := ?_) Qas rfl rfl Qm Qd (Or.inl ⟨by rfl, ?_⟩) ?_ ?_
     rotate_left
     ·exact Qf
     rotate_left
     ·exact Qc
     refine oc_ (i := 3) (N := some 20) (v := ?_) (a' := ?_) #[true, true, false, true, false, false, false, false, false, false, false, false, false, false, false, false, false, false] rfl rfl Qm Qd (Or.inl ⟨by rfl, ?_⟩) ?_ ?_
     rotate_left
     ·exact Qf
     rotate_left
     ·exact Qc
     refine oc_ (i := 4) (N := some 21) (v := ?_) (a' := ?_) #[true, true, false, true, true, false, false, false, false, false, false, false, false, false, false, false, false, false] rfl rfl Qm Qd (Or.inl ⟨by rfl, ?_⟩) ?_ ?_
     rotate_left
     ·exact Qf
     rotate_left
     ·exact Qc
     refine oc_ (i := 5) (N := some 22) (v := ?_) (a' := ?_) #[true, true, false, true, true, true, false, false, false, false, false, false, false, false, false, false, false, false] rfl rfl Qm Qd (Or.inl ⟨by rfl, ?_⟩) ?_ ?_
     rotate_left
     ·exact Qf
     rotate_left
     ·exact Qc
     refine oc_ (i := 6) (N := some 23) (v := ?_) (a' := ?_) #[true, true, false, true, true, true, true, false, false, false, false, false, false, false, false, false, false, false] rfl rfl Qm Qd (Or.inl ⟨by rfl, ?_⟩) ?_ ?_
     rotate_left
     ·exact Qf
     rotate_left
     ·exact Qc
     refine oc_ (i := 7) (N := some 24) (v := ?_) (a' := ?_) #[true, true, false, true, true, true, true, true, false, false, false, false, false, false, false, false, false, false] rfl rfl Qm Qd (Or.inl ⟨by rfl, ?_⟩) ?_ ?_
     rotate_left
     ·exact Qf
     rotate_left
     ·exact Qc
     refine oc_ (i := 8) (N := some 25) (v := ?_) (a' := ?_) #[true, true, false, true, true, true, true, true, true, false, false, false, false, false, false, false, false, false] rfl rfl Qm Qd (Or.inl ⟨by rfl, ?_⟩) ?_ ?_
     rotate_left
     ·exact Qf
     rotate_left
     ·exact Qc
     refine oc_ (i := 9) (N := some 26) (v := ?_) (a' := ?_) #[true, true, false, true, true, true, true, true, true, true, false, false, false, false, false, false, false, false] rfl rfl Qm Qd (Or.inl ⟨by rfl, ?_⟩) ?_ ?_
     rotate_left
     ·exact Qf
     rotate_left
     ·exact Qc
     refine oc_ (i := 10) (N := some 27) (v := ?_) (a' := ?_) #[true, true, false, true, true, true, true, true, true, true, true, false, false, false, false, false, false, false] rfl rfl Qm Qd (Or.inl ⟨by rfl, ?_⟩) ?_ ?_
     rotate_left
     ·exact Qf
     rotate_left
     ·exact Qc
     refine oc_ (i := 11) (N := some 28) (v := ?_) (a' := ?_) #[true, true, false, true, true, true, true, true, true, true, true, true, false, false, false, false, false, false] rfl rfl Qm Qd (Or.inl ⟨by rfl, ?_⟩) ?_ ?_
     rotate_left
     ·exact Qf
     rotate_left
     ·exact Qc
     refine oc_ (i := 12) (N := some 29) (v := ?_) (a' := ?_) #[true, true, false, true, true, true, true, true, true, true, true, true, true, false, false, false, false, false] rfl rfl Qm Qd (Or.inl ⟨by rfl, ?_⟩) ?_ ?_
     rotate_left
     ·exact Qf
     rotate_left
     ·exact Qc
     refine df_ (i := 2) (N := some 19) (v := ?_) (a' := ?_) Qa3 rfl rfl (ie_ HT_.out HW_.out Qb) Qd (Or.inl ⟨by rfl, ?_⟩) hHeld ?_ ?_
     rotate_left
     ·intro w' s0
      go_simp
      with_reducible rfl
     rotate_left
     ·exact Qc
     refine one_ (i := 13) (N := some 30) Qbe rfl rfl Xb Qh (fun K hK => ?_)
     refine un_ Tryz.func80 Qb rfl #[.int .i64 (wrap64 ((wrap64 (x14_2 + 1)) * (wrap64 ((wrap64 ((l0.length : Int) - 1)) - x9_1))))] (by rfl) rfl rfl Qj ?_
     with_reducible refine (zm_.calls (wrap64 ((wrap64 (x14_2 + 1)) * (wrap64 ((wrap64 ((l0.length : Int) - 1)) - x9_1)))) t107 _ A12.out).mono ?_
     rintro e w' ⟨rfl, ⟨nd, rfl⟩⟩
     refine ⟨_, rfl, ?_⟩
     refine hK.out _ _ (hHeld) (fun hHeld => ?_)
     clear hK K
     refine kk_ (a' := ?_) ?_ ?_
     rotate_left
     ·show Act.put _ (some 30) _ = _
      simp only [Act.put, List.setIfInBounds_toArray, List.set_cons_zero, List.set_cons_succ, yb_, ac_]
      rfl
     refine one_ (i := 14) (N := some 31) Qbp rfl rfl Xb Qh (fun K hK => ?_)
     refine un_ Tryz.func79 Qb rfl #[.int .i64 ji11, .int .i64 t107] (by rfl) rfl rfl (by (try simp only [List.map_toArray, List.map_cons, List.map_nil]); first | done | (simp only [hji11]; rfl) | rfl | (simp only [List.length_drop, List.length_take]; rfl)) ?_
     with_reducible refine (xv_.calls ji11 t107 t108 _ A13.out).mono ?_
     rintro e w' ⟨rfl, ⟨nd, rfl⟩⟩
     refine ⟨_, rfl, ?_⟩
     have p14 : 0 ≤ (x14_2 : Int) := of_decide_eq_true Qg
     have q14 : (x14_2 : Int) < ((6 : Nat) : Int) := by have := of_decide_eq_true c8b0; omega
     obtain ⟨go14, co14, eo14, gb14, gl14, cl14, HG14⟩ := Kd.mi_ HO_3.out (by rw [(so_ HO_3.out Qh).2]; decide)
     obtain ⟨hg14_, hc14_⟩ : go14 = w.heap.size + 1 ∧ co14 = 6 := by injection eo14 with a_ b_ c_; injection a_ with a_; injection a_ with a_; exact ⟨a_.symm, c_.symm⟩
     subst hg14_; subst hc14_
     have HN := ba_.mk (show w.heap.size ≠ w.heap.size + 1 from by omega)
     have GB14 := ba_.mk gb14
     have GG14 := ba_.mk HG14
     clear gb14 gl14 HG14
     (first | simp only [add_plain] at hx106_0 | skip)
     obtain ⟨hx14_0, hf14_0⟩ := Kd.sg_ 0 HO_3.out (x14_2 : Int) p14 q14
     replace p14 := eq_true p14
     replace q14 := eq_true q14
     have HP17 := Kd.jn_ HO_3.out (x14_2 : Int) (Go.bits .xor .i64 (rd x3_2 x14_2) t108)
     rw [← Ny109.out] at HP17
     have HQ17 := ba_.mk HP17
     clear HP17
     refine hK.out _ _ (hHeld) (fun hHeld => ?_)
     clear hK K
     refine kk_ (a' := ?_) ?_ ?_
     rotate_left
     ·show Act.put _ (some 31) _ = _
      simp only [Act.put, List.setIfInBounds_toArray, List.set_cons_zero, List.set_cons_succ, yb_, ac_]
      rfl
     refine oc_ (i := 15) (N := some 32) (v := ?_) (a' := ?_) Qb0 rfl rfl Qm Qd (Or.inl ⟨by rfl, ?_⟩) ?_ ?_
     rotate_left
     ·exact Qf
     rotate_left
     ·exact Qc
     refine oc_ (i := 16) (N := some 33) (v := ?_) (a' := ?_) Qcb rfl rfl Qm Qd (Or.inl ⟨by rfl, ?_⟩) ?_ ?_
     rotate_left
     ·exact Qf
     rotate_left
     ·exact Qc
     refine np_ (i := 17) (N := none) Qce rfl rfl Xb Qh (fun K hK => ?_)
     refine xl_ (w1 := ?_) (by rfl) rfl ?_ ?_
     rotate_left
     ·go_simp
      rfl
     refine hK.out _ _ ?_
     clear hK K
     refine jk_ Xw ?_
     try go_wp2
     go_roundg k2
     case measure => exact Xi
     case rel => exact ⟨(y109), (wrap64 (x14_2 + 1)), Qi, H', ⟨Xj⟩, ⟨by (with_reducible repeat (first | apply Kd.eb_ | apply Kd.fb_ | apply Kd.rb_)); exact HQ17.out⟩, ⟨Ye⟩, ⟨by repeat (first | (with_reducible first | exact HB.out | apply da_ | apply aa_ | apply ca_ | refine sa_ ?_ GB14.out) | exact HB.out)⟩⟩
end Go.Proofs.YtpkhgapifnjbeaaGreatDoor.S
end
section
namespace Go.Proofs.YtpkhgapifnjbeaaGreatDoor.S
open RowKit G Zw.PrintWords Zw.PrintLast Zw.PrintMore
attribute [local go_sem] id_ kd_ vd_ wd_ bd_ cd_ jd_ ld_
end Go.Proofs.YtpkhgapifnjbeaaGreatDoor.S
end
section
namespace Go.Proofs.YtpkhgapifnjbeaaGreatDoor.G
open RowKit Zw.PrintWords Zw.PrintLast Zw.PrintMore
structure Mat (W : World) (base g R C : Nat) (h cc : Nat → Nat) (M : Nat → Nat → Int) : Prop where
 out : ∀ i, i < R → W.cell? ⟨g, i, none⟩ = some (.slice (some ⟨h i, 0, none⟩) C (cc i))
 fro : ∀ i, i < R → W.frozen? ⟨g, i, none⟩ = false
 cel : ∀ i k, i < R → k < C → W.cell? ⟨h i, k, none⟩ = some (.int .i64 (M i k))
 frc : ∀ i k, i < R → k < C → W.frozen? ⟨h i, k, none⟩ = false
 ne : ∀ i, i < R → h i ≠ g
 inj : ∀ i j, i < R → j < R → h i = h j → i = j
 lo : ∀ i, i < R → base ≤ h i
 lg : base ≤ g
def updM (M : Nat → Nat → Int) (i k : Nat) (x : Int) : Nat → Nat → Int := fun i' k' => if i' = i ∧ k' = k then x else M i' k'
def dg_ {α : Type} (f : Nat → α) (a b : Nat) : Nat → α := fun i => if i = a then f b else if i = b then f a else f i
section
variable {W W1 : World} {base g R C : Nat} {h cc : Nat → Nat} {M : Nat → Nat → Int}
theorem Mat.same (H : Mat W base g R C h cc M) (hc : ∀ a, W1.cell? a = W.cell? a) (hf : ∀ a, W1.frozen? a = W.frozen? a) : Mat W1 base g R C h cc M :=
 ⟨fun i hi => (hc _).trans (H.out i hi), fun i hi => (hf _).trans (H.fro i hi), fun i k hi hk => (hc _).trans (H.cel i k hi hk), fun i k hi hk => (hf _).trans (H.frc i k hi hk), H.ne, H.inj, H.lo, H.lg⟩
theorem Mat.drewN (H : Mat W base g R C h cc M) (n : Nat) : Mat (W.drewN n) base g R C h cc M := H.same (fun _ => rfl) (fun _ => rfl)
theorem Mat.drew (H : Mat W base g R C h cc M) : Mat W.drew base g R C h cc M := H.same (fun _ => rfl) (fun _ => rfl)
theorem Mat.below (H : Mat W base g R C h cc M) (hb : Below W.heap.size W W1) : Mat W1 base g R C h cc M := by
 have hlt : ∀ a v, W.cell? a = some v → a.block < W.heap.size := fun a v hv => World.block_lt_of_cell? W a hv
 refine ⟨fun i hi => (hb.cell (hlt _ _ (H.out i hi))).trans (H.out i hi), fun i hi => (hb.frozen (hlt _ _ (H.out i hi))).trans (H.fro i hi), fun i k hi hk => (hb.cell (hlt _ _ (H.cel i k hi hk))).trans (H.cel i k hi hk), fun i k hi hk => (hb.frozen (hlt _ _ (H.cel i k hi hk))).trans (H.frc i k hi hk), H.ne, H.inj, H.lo, H.lg⟩
theorem Mat.set (H : Mat W base g R C h cc M) (i k : Nat) (hi : i < R) (hk : k < C) (x : Int) : Mat (W.setCell ⟨h i, k, none⟩ (.int .i64 x)) base g R C h cc (updM M i k x) := by
 refine ⟨fun i' hi' => ?_, fun i' hi' => ?_, fun i' k' hi' hk' => ?_, fun i' k' hi' hk' => ?_, H.ne, H.inj, H.lo, H.lg⟩
 ·rw [World.cell?_setCell_other _ _ _ _ (by intro e; simp only [Addr.mk.injEq] at e; exact H.ne i hi e.1)]
  exact H.out i' hi'
 ·rw [World.frozen?_setCell]; exact H.fro i' hi'
 ·by_cases e : i' = i ∧ k' = k
  ·obtain ⟨rfl, rfl⟩ := e
   rw [World.cell?_setCell_same _ _ _ (H.cel _ _ hi hk)]
   simp [updM]
  ·rw [World.cell?_setCell_other _ _ _ _ (by intro q; simp only [Addr.mk.injEq] at q; exact e ⟨(H.inj _ _ hi hi' q.1).symm, q.2.1.symm⟩), H.cel i' k' hi' hk']
   simp [updM, e]
 ·rw [World.frozen?_setCell]; exact H.frc i' k' hi' hk'
theorem Mat.congr {M' : Nat → Nat → Int} (H : Mat W base g R C h cc M) (e : ∀ i k, i < R → k < C → M i k = M' i k) : Mat W base g R C h cc M' :=
 ⟨H.out, H.fro, fun i k hi hk => by rw [← e i k hi hk]; exact H.cel i k hi hk, H.frc, H.ne, H.inj, H.lo, H.lg⟩
theorem Mat.xh1_ (H : Mat W base g R C h cc M) (a b : Nat) (ha : a < R) (hb : b < R) :
  ∀ i, i < R → ((W.setCell ⟨g, a, none⟩ (.slice (some ⟨h b, 0, none⟩) C (cc b))).setCell ⟨g, b, none⟩ (.slice (some ⟨h a, 0, none⟩) C (cc a))).cell? ⟨g, i, none⟩ = some (.slice (some ⟨dg_ h a b i, 0, none⟩) C (dg_ cc a b i)) := by
 intro i hi
 have h1 : ∀ v, (W.setCell ⟨g, a, none⟩ v).cell? ⟨g, b, none⟩ = some (if a = b then v else .slice (some ⟨h b, 0, none⟩) C (cc b)) := by
  intro v
  by_cases e : a = b
  ·subst e; rw [World.cell?_setCell_same _ _ _ (H.out a ha), if_pos rfl]
  ·rw [World.cell?_setCell_other _ _ _ _ (by intro q; simp only [Addr.mk.injEq] at q; exact e q.2.1), if_neg e]; exact H.out b hb
 by_cases e : i = b
 ·subst e
  rw [World.cell?_setCell_same _ _ _ (h1 _)]
  by_cases e2 : i = a <;> simp [dg_, e2]
 rw [World.cell?_setCell_other _ _ _ _ (by intro q; simp only [Addr.mk.injEq] at q; exact e q.2.1.symm)]
 by_cases e2 : i = a
 ·subst e2
  rw [World.cell?_setCell_same _ _ _ (H.out i hi)]
  simp [dg_]
 ·rw [World.cell?_setCell_other _ _ _ _ (by intro q; simp only [Addr.mk.injEq] at q; exact e2 q.2.1.symm), H.out i hi]
  simp [dg_, e, e2]
theorem lo_ {α : Type} {f : Nat → α} {a b i R : Nat} {p : α → Prop} (hp : ∀ i, i < R → p (f i)) (ha : a < R) (hb : b < R) (hi : i < R) : p (dg_ f a b i) := by
 unfold dg_
 split
 ·exact hp b hb
 split
 ·exact hp a ha
 ·exact hp i hi
theorem Mat.swap (H : Mat W base g R C h cc M) (a b : Nat) (ha : a < R) (hb : b < R) :
  Mat ((W.setCell ⟨g, a, none⟩ (.slice (some ⟨h b, 0, none⟩) C (cc b))).setCell ⟨g, b, none⟩ (.slice (some ⟨h a, 0, none⟩) C (cc a))) base g R C (dg_ h a b) (dg_ cc a b) (dg_ M a b) := by
 have hne : ∀ i, i < R → dg_ h a b i ≠ g := fun i hi => lo_ (p := fun x => x ≠ g) H.ne ha hb hi
 have hpair : ∀ i, i < R → ∃ j, j < R ∧ dg_ h a b i = h j ∧ dg_ M a b i = M j ∧ (i = a ∧ j = b ∨ i ≠ a ∧ i = b ∧ j = a ∨ i ≠ a ∧ i ≠ b ∧ j = i) := by
  intro i hi
  unfold dg_
  by_cases e1 : i = a
  ·exact ⟨b, hb, by simp [e1], by simp [e1], .inl ⟨e1, rfl⟩⟩
  by_cases e2 : i = b
  ·exact ⟨a, ha, by rw [if_neg e1, if_pos e2], by rw [if_neg e1, if_pos e2], .inr (.inl ⟨e1, e2, rfl⟩)⟩
  ·exact ⟨i, hi, by rw [if_neg e1, if_neg e2], by rw [if_neg e1, if_neg e2], .inr (.inr ⟨e1, e2, rfl⟩)⟩
 refine ⟨H.xh1_ a b ha hb, fun i hi => ?_, fun i k hi hk => ?_, fun i k hi hk => ?_, hne, fun i j hi hj e => ?_, fun i hi => lo_ (p := fun x => base ≤ x) H.lo ha hb hi, H.lg⟩
 ·rw [World.frozen?_setCell, World.frozen?_setCell]; exact H.fro i hi
 ·obtain ⟨j, hj, e1, e2, _⟩ := hpair i hi
  have hn := H.ne j hj
  rw [e1, e2, World.cell?_setCell_other _ _ _ _ (by intro q; simp only [Addr.mk.injEq] at q; exact hn q.1.symm), World.cell?_setCell_other _ _ _ _ (by intro q; simp only [Addr.mk.injEq] at q; exact hn q.1.symm)]
  exact H.cel j k hj hk
 ·obtain ⟨j, hj, e1, _, _⟩ := hpair i hi
  rw [e1, World.frozen?_setCell, World.frozen?_setCell]
  exact H.frc j k hj hk
 obtain ⟨i', hi', e1, _, c1⟩ := hpair i hi
 obtain ⟨j', hj', e2, _, c2⟩ := hpair j hj
 rw [e1, e2] at e
 have := H.inj i' j' hi' hj' e
 omega
end
theorem ux_ {α : Type} [Inhabited α] {n : Nat} {P : Nat → α → Prop} (h : ∀ i, i < n → ∃ x, P i x) : ∃ F : Nat → α, ∀ i, i < n → P i (F i) := by
 classical
 refine ⟨fun i => if hi : i < n then Classical.choose (h i hi) else default, fun i hi => ?_⟩
 simp only [hi, dif_pos]
 exact Classical.choose_spec (h i hi)
theorem ee1_ {W : World} {base e1 e2 C : Nat} {ok : Nat → Prop} {v : Value} {xs : List (List Int)} (H : Kd.S (Kd.slice e2 (Kd.int .i64)) e1 W base ok v xs) (hR : 0 < xs.length) (hC : ∀ x, x ∈ xs → x.length = C) (hC0 : 0 < C) :
  ∃ g cap h cc, v = .slice (some ⟨g, 0, none⟩) xs.length cap ∧ Mat W base g xs.length C h cc (fun i k => (xs.getD i []).getD k 0) := by
 obtain ⟨f, h0, inner, ho, hr⟩ := H
 have hsz : ((Kd.slice e2 (Kd.int .i64)).tag f).sz = 1 := rfl
 rw [List.length_zipIdx, hsz] at ho
 rcases ho with ⟨hlen, ⟨_, hn⟩ | ⟨g, cap, cur, rfl, hb, hg, h1, h2, h3, h4⟩⟩
 ·omega
 have hrow : ∀ i, i < xs.length → ∃ p : Nat × Nat, inner[i]? = some (.slice (some ⟨p.1, 0, none⟩) C p.2) ∧ Kd.R (Kd.int .i64) e2 W base (fun k => (ok k ∧ some k ≠ some g) ∧ f k = i) (.slice (some ⟨p.1, 0, none⟩) C p.2) (xs.getD i []) ∧ base ≤ p.1 := by
  intro i hi
  have hx : xs[i]? = some (xs.getD i []) := by rw [List.getD_eq_getElem?_getD, List.getElem?_eq_getElem hi]; rfl
  have hm := hr.2 i (xs.getD i [], i) (Kd.yc1_ hx)
  rw [hsz, Nat.mul_one] at hm
  obtain ⟨vi, hcs, hR1⟩ := hm
  have hxl : (xs.getD i []).length = C := hC _ (List.mem_iff_getElem?.2 ⟨i, hx⟩)
  obtain ⟨hg1, c1, he, hb1, _⟩ := Kd.mi_ hR1 (by rw [hxl]; exact hC0)
  rw [hxl] at he
  subst he
  refine ⟨(hg1, c1), ?_, hR1, hb1⟩
  have : (List.take 1 (List.drop i inner))[0]? = some (.slice (some ⟨hg1, 0, none⟩) C c1) := by rw [hcs]; rfl
  rw [List.getElem?_take] at this
  simpa using this
 obtain ⟨F, hF⟩ := ux_ hrow
 have hcell : ∀ j, W.cell? ⟨g, j, none⟩ = cur[j]? := fun j => cell_of_row W g j cur e1 (0, 0) hg
 refine ⟨g, cap, fun i => (F i).1, fun i => (F i).2, rfl, fun i hi => ?_, fun i hi => frozen_of_row W g i cur e1 hg, fun i k hi hk => ?_, fun i k hi hk => ?_, fun i hi => ?_, fun i j hi hj e => ?_, fun i hi => (hF i hi).2.2, hb⟩
 ·rw [hcell, ← (hF i hi).1, ← h4]
  rw [List.getElem?_take, if_pos Qa, Array.getElem?_toList]
 ·have := (Kd.sg_ 0 (hF i hi).2.1 (k : Int) Qa Qa).1
  rw [Int.toNat_natCast] at this
  rw [this]
  simp [rdOf, List.getD_eq_getElem?_getD]
 ·have := (Kd.sg_ 0 (hF i hi).2.1 (k : Int) Qa Qa).2
  rwa [Int.toNat_natCast] at this
 ·have := (hF i hi).2.1.1 (F i).1 rfl
  intro e
  exact this.1.2 (by rw [e])
 have a := (hF i hi).2.1.1 (F i).1 rfl
 have b := (hF j hj).2.1.1 (F j).1 rfl
 have e' : (F i).1 = (F j).1 := e
 rw [e'] at a
 exact a.2.symm.trans b.2
end Go.Proofs.YtpkhgapifnjbeaaGreatDoor.G
end
section
namespace Go.Proofs.YtpkhgapifnjbeaaGreatDoor.G
open RowKit Rs
def pivot (M : Nat → Nat → Int) (c R : Nat) : Nat := ((List.range R).find? (fun i => decide (c ≤ i) && decide (M i c ≠ 0))).getD R
theorem io_ {M : Nat → Nat → Int} {c R r : Nat} (h1 : c ≤ r) (h2 : r ≤ R) (h3 : ∀ i, c ≤ i → i < r → M i c = 0) (h4 : r < R → M r c ≠ 0) : pivot M c R = r := by
 unfold pivot
 by_cases h : r < R
 ·have : (List.range R).find? (fun i => decide (c ≤ i) && decide (M i c ≠ 0)) = some r := by
   rw [List.find?_range_eq_some]
   refine ⟨by simp [h1, h4 h], by simpa using h, fun j hj => ?_⟩
   by_cases hc : c ≤ j
   ·simp [h3 j hc hj]
   ·simp [hc]
  rw [this]; rfl
 have hr : r = R := by omega
 subst hr
 have : (List.range r).find? (fun i => decide (c ≤ i) && decide (M i c ≠ 0)) = none := by
  rw [List.find?_range_eq_none]
  intro j hj
  by_cases hc : c ≤ j
  ·simp [h3 j hc hj]
  ·simp [hc]
 rw [this]; rfl
def tj_ (M : Nat → Nat → Int) (c : Nat) (b : Int) : Nat → Nat → Int := fun i k => if i = c then mulI (M i k) b else M i k
def wm_ (M : Nat → Nat → Int) (c : Nat) : Nat → Nat → Int := fun i k => if i ≠ c ∧ M i c ≠ 0 then xorI (M i k) (mulI (M i c) (M c k)) else M i k
def rq_ (M : Nat → Nat → Int) (c p : Nat) : Nat → Nat → Int := wm_ (tj_ (dg_ M c p) c (invI (dg_ M c p c c))) c
def gjI (R : Nat) (M0 : Nat → Nat → Int) : Nat → Option (Nat → Nat → Int)
 | 0 => some M0
 | c + 1 => match gjI R M0 c with
  | none => none
  | some M => if pivot M c R = R then none else some (rq_ M c (pivot M c R))
def rh_ (M : Nat → Nat → Int) (c i : Nat) : Nat → Nat → Int := fun i' k => if i' < i then wm_ M c i' k else M i' k
def tg_ (M : Nat → Nat → Int) (c i k : Nat) : Nat → Nat → Int := fun i' k' => if i' = i then (if k' < k then xorI (M i k') (mulI (M i c) (M c k')) else M i k') else rh_ M c i i' k'
def zh_ (M : Nat → Nat → Int) (c : Nat) (b : Int) (k : Nat) : Nat → Nat → Int := fun i k' => if i = c ∧ k' < k then mulI (M i k') b else M i k'
theorem sn_ (M : Nat → Nat → Int) (c : Nat) (b : Int) : zh_ M c b 0 = M := by funext i k; simp [zh_]
theorem rn_ (M : Nat → Nat → Int) (c : Nat) (b : Int) (k : Nat) : updM (zh_ M c b k) c k (mulI (M c k) b) = zh_ M c b (k + 1) := by
 funext i k'
 simp only [updM, zh_]
 by_cases h1 : i = c <;> by_cases h2 : k' = k
 ·subst h1; subst h2; simp
 ·have : k' < k + 1 ↔ k' < k := by omega
  simp [h1, h2, this]
 ·simp [h1]
 ·simp [h1]
theorem sr_ (M : Nat → Nat → Int) (c : Nat) (b : Int) (k : Nat) : zh_ M c b k c k = M c k := by simp [zh_]
theorem ep_ (M : Nat → Nat → Int) (c : Nat) : rh_ M c 0 = M := by funext i k; simp [rh_]
theorem wj_ (M : Nat → Nat → Int) (c i : Nat) (h : i = c ∨ M i c = 0) : rh_ M c (i + 1) = rh_ M c i := by
 funext i' k
 simp only [rh_]
 by_cases h1 : i' < i
 ·rw [if_pos Qa, if_pos h1]
 by_cases h2 : i' = i
 rotate_left
 ·rw [if_neg Qa, if_neg h1]
 subst h2
 rw [if_pos Qa, if_neg h1]
 unfold wm_
 rw [if_neg (by rcases h with h | h <;> simp [h])]
theorem ok_ (M : Nat → Nat → Int) (c i k : Nat) : rh_ M c i i k = M i k := by simp [rh_]
theorem ry_ (M : Nat → Nat → Int) (c i k : Nat) : rh_ M c i c k = M c k := by
 unfold rh_ wm_
 simp
theorem ln_ (M : Nat → Nat → Int) (c i : Nat) : tg_ M c i 0 = rh_ M c i := by
 funext i' k
 simp only [tg_]
 by_cases h : i' = i
 ·subst h; simp [ok_]
 ·rw [if_neg h]
theorem dl_ (M : Nat → Nat → Int) (c i k : Nat) : tg_ M c i k i k = M i k := by simp [tg_]
theorem vj_ (M : Nat → Nat → Int) (c i k k' : Nat) (h : i ≠ c) : tg_ M c i k c k' = M c k' := by
 unfold tg_
 rw [if_neg (Ne.symm h), ry_]
theorem kn_ (M : Nat → Nat → Int) (c i k : Nat) : updM (tg_ M c i k) i k (xorI (M i k) (mulI (M i c) (M c k))) = tg_ M c i (k + 1) := by
 funext i' k'
 simp only [updM, tg_]
 by_cases h1 : i' = i <;> by_cases h2 : k' = k
 ·subst h1; subst h2; simp
 ·have : k' < k + 1 ↔ k' < k := by omega
  simp [h1, h2, this]
 ·simp [h1]
 ·simp [h1]
theorem dp_ (M : Nat → Nat → Int) (c i C : Nat) (hi : i ≠ c) (hz : M i c ≠ 0) : ∀ i' k, k < C → tg_ M c i C i' k = rh_ M c (i + 1) i' k := by
 intro i' k hk
 simp only [tg_, rh_]
 by_cases h1 : i' = i
 ·subst h1
  simp [hk, wm_, hi, hz]
 by_cases h2 : i' < i
 ·simp [h1, h2, Nat.lt_succ_of_lt h2]
 ·simp [h1, h2, show ¬ i' < i + 1 by omega]
theorem cr_ (M N : Nat → Nat → Int) (c R C : Nat) (hN : ∀ i k, k < C → M i k = N i k) (hc : c < C) : ∀ i k, i < R → k < C → rh_ M c R i k = wm_ N c i k := by
 intro i k hi hk
 simp only [rh_, wm_]
 rw [if_pos hi, hN i c hc, hN i k hk, hN c k hk]
theorem bq_ (M : Nat → Nat → Int) (c : Nat) (b : Int) (C : Nat) : ∀ i k, k < C → zh_ M c b C i k = tj_ M c b i k := by
 intro i k hk
 simp [zh_, tj_, hk]
def nl_ (M : Nat → Nat → Int) (n i : Nat) : List Int := (List.range n).map fun j => if j < i then M j n else 0
theorem on_ (M : Nat → Nat → Int) (n i : Nat) : (nl_ M n i).length = n := by simp [nl_]
theorem dz_ (M : Nat → Nat → Int) (n : Nat) : nl_ M n 0 = List.replicate n 0 := by
 apply List.ext_getElem <;> simp [nl_]
theorem cz_ (M : Nat → Nat → Int) (n i : Nat) : (nl_ M n i).set i (M i n) = nl_ M n (i + 1) := by
 apply List.ext_getElem
 ·simp [nl_]
 intro j h1 h2
 rw [List.getElem_set]
 simp only [nl_, List.getElem_map, List.getElem_range]
 by_cases e : i = j
 ·subst e; simp
 rw [if_neg e]
 have : j < i + 1 ↔ j < i := by omega
 simp [this]
theorem bz_ (M : Nat → Nat → Int) (n i : Nat) (h : n ≤ i) : nl_ M n (i + 1) = nl_ M n i := by
 apply List.ext_getElem
 ·simp [nl_]
 intro j h1 h2
 simp [nl_] at h1 ⊢
 simp [show j < i + 1 by omega, show j < i by omega]
theorem zb1_ (M : Nat → Nat → Int) (n i : Nat) (h : n ≤ i) : nl_ M n i = (List.range n).map fun j => M j n := by
 apply List.ext_getElem
 ·simp [nl_]
 intro j h1 h2
 simp [nl_] at h1 ⊢
 intro h3
 omega
end Go.Proofs.YtpkhgapifnjbeaaGreatDoor.G
end
section
namespace Go.Proofs.YtpkhgapifnjbeaaGreatDoor.G
open RowKit Zw.PrintWords Zw.PrintLast Zw.PrintMore Rs
theorem cu_ (x : Int) (W : World) : Sem.run Tryz.prog (method 272 87 (.int .i64 x) "awardingbody/rscode.inverse") W = .ok (157, .int .i64 x) W := by kernel_rfl
theorem gr_ (x : Int) (W : World) : Sem.run Tryz.prog (method 272 87 (.int .i64 x) "awardingbody/rscode.times") W = .ok (116, .int .i64 x) W := by kernel_rfl
theorem tb1_ (x : Int) (W : World) : Sem.run Tryz.prog (method 272 87 (.int .i64 x) "awardingbody/rscode.plus") W = .ok (115, .int .i64 x) W := by kernel_rfl
def solR (R n : Nat) (M : Nat → Nat → Int) : List Int × Bool :=
 match gjI R M n with
 | none => ([], false)
 | some M' => if ((List.range R).all fun i => decide (i < n) || decide (M' i n = 0)) = true then ((List.range n).map fun i => M' i n, true) else ([], false)
theorem ox_ {R : Nat} {M M' : Nat → Nat → Int} {c : Nat} (h : gjI R M c = some M') (hp : pivot M' c R = R) : ∀ d, gjI R M (c + 1 + d) = none := by
 intro d
 induction d with
 | zero => simp [gjI, h, hp]
 | succ d ih => rw [show c + 1 + (d + 1) = (c + 1 + d) + 1 from rfl, gjI, ih]
theorem pc1_ {R n : Nat} {M M' : Nat → Nat → Int} {c : Nat} (h : gjI R M c = some M') (hp : pivot M' c R = R) (hc : c < n) : solR R n M = ([], false) := by
 unfold solR
 have := ox_ h hp (n - (c + 1))
 rw [show c + 1 + (n - (c + 1)) = n from by omega] at this
 rw [this]
theorem ar_ {W : World} {p : Addr} {u : Value} (h : W.cell? p = some u) (q : Addr) (x : Value) : ∃ v, (W.setCell q x).cell? p = some v := by
 by_cases e : q = p
 ·subst e; exact ⟨x, World.cell?_setCell_same _ _ _ h⟩
 ·exact ⟨u, (World.cell?_setCell_other _ _ _ _ e).trans h⟩
theorem cy_ {R n i : Nat} {M M' : Nat → Nat → Int} (h : gjI R M n = some M') (hi : i < R) (hn : n ≤ i) (hz : M' i n ≠ 0) : solR R n M = ([], false) := by
 unfold solR
 rw [h]
 simp only
 rw [if_neg]
 intro hh
 have := List.all_eq_true.1 hh i (by simpa using hi)
 simp [hz] at this
 omega
theorem pm_ {R n : Nat} {M M' : Nat → Nat → Int} (h : gjI R M n = some M') (hz : ∀ i, n ≤ i → i < R → M' i n = 0) : solR R n M = ((List.range n).map fun i => M' i n, true) := by
 unfold solR
 rw [h]
 simp only
 rw [if_pos]
 refine List.all_eq_true.2 fun i hi => ?_
 by_cases hin : i < n
 ·simp [hin]
 ·simp [hz i Qa (by simpa using hi)]
def ga1_ (T base R n : Nat) (M : Nat → Nat → Int) (w : World) (e : Ending) (w' : World) : Prop :=
 ∃ v0_ : Value, e = .returned (.tuple #[v0_, .bool (solR R n M).2]) ∧ Kd.R (Kd.int .i64) T w' w.heap.size (fun _ => True) v0_ (solR R n M).1 ∧ Below base w w'
set_option maxHeartbeats 4000000 in
set_option maxRecDepth 100000 in
theorem vz_ (base g R n cap : Nat) (h cc : Nat → Nat) (M : Nat → Nat → Int) (w : World) (HM0 : Mat w base g R (n + 1) h cc M) (hR : 1 ≤ R) (hR2 : R ≤ 100) (hn : n ≤ 100) (hbase : base ≤ w.heap.size) :
  Calls Tryz.prog 96 #[.slice (some ⟨g, 0, none⟩) R cap] w (ga1_ 87 base R n M w) := by
 have HM := Lib.hid HM0
 clear HM0
 have f0 := HM.out.out 0 Qa
 go_enter Tryz.func96, Tryz.ntmps96
 go_wp2
 go_loopw [22] (fun v wr => ∃ c : Nat, c ≤ n ∧ c ≤ R ∧ v = .int .i64 c ∧ ∃ (h cc : Nat → Nat) (M' : Nat → Nat → Int), Hid (gjI R M c = some M') ∧ Hid (Mat wr base g R (n + 1) h cc M') ∧ Hid (Below base w wr)) (fun v _ => n - (intOf v).toNat)
 case atStart => exact ⟨0, Nat.zero_le _, Nat.zero_le _, rfl, h, cc, M, Lib.hid rfl, HM, Lib.hid (Below.refl _ _)⟩
 case round =>
  clear f0 HM
  obtain ⟨c, hc, hcR, rfl, h, cc, M1, HG, HM, HB⟩ := hrel
  obtain ⟨wo, rfl⟩ : ∃ wo : World, wo = wr := ⟨_, rfl⟩
  by_cases hcn : c < n
  rotate_left
  ·obtain rfl : c = n := by omega
   have i57 : (Tryz.prog.info? 87).map (fun i => (i.zero, i.size, i.bytes)) = some (some (.int .i64 0), 1, 8) := by kernel_rfl
   have I57 := Lib.hid i57
   clear i57
   go_wp2_with (first | ((with_reducible refine md_ (N := 152) rfl ?_); refine Kd.oo_ (Kd.int .i64) wo.heap.size 87 rfl (N := 152) rfl 124 _ _ rfl (c : Int) rfl rfl Tryz.underlying124 (.int .i64 0) 8 I57.out rfl Qh Qa 0 (ok := fun _ => True) (okp := fun _ => True) rfl (fun _ hk => hk) trivial Qa Qa (Below.refl _ _) (Nat.le_refl _) ?_; intro v1 w1 ho1 hb1 hg1_ hnew_; clear hg1_ hnew_; have HO := Lib.hid ho1; have HW := Lib.hid hb1; clear ho1 hb1))
   go_loopw [155] (fun v wr => ∃ i : Nat, i ≤ R ∧ v = .int .i64 i ∧ Hid (Kd.R (Kd.int .i64) 87 wr wo.heap.size (fun _ => True) v1 (nl_ M1 c i)) ∧ Hid (∀ i', c ≤ i' → i' < i → M1 i' c = 0) ∧ Hid (Below wo.heap.size wo wr)) (fun v _ => R - (intOf v).toNat)
   case atStart => exact ⟨0, Nat.zero_le _, rfl, Lib.hid (by rw [dz_]; have := HO.out; simpa using this), Lib.hid (fun i' h1 h2 => by omega), HW⟩
   case round =>
    clear HO HW
    obtain ⟨i, hi, rfl, HO, HZ, HW⟩ := hrel
    obtain ⟨w2, rfl⟩ : ∃ x : World, x = wr := ⟨_, rfl⟩
    have HM2 := Lib.hid (HM.out.below HW.out)
    by_cases hiR : i < R
    rotate_left
    ·obtain rfl : i = R := by omega
     have HS := Lib.hid (pm_ (n := c) HG.out HZ.out)
     go_wp2
     go_ret2
     exact ⟨_, by rw [HS.out]; rfl, by rw [HS.out]; rw [← zb1_ M1 c i hcR]; exact Kd.td_ HO.out HB.out.size, vm_ HB.out (Nat.le_trans hbase HB.out.size) HW.out⟩
    have fo := HM2.out.out i hiR
    have fe := HM2.out.cel i c hiR Qa
    by_cases hic : i < c
    rotate_left
    ·by_cases hz : M1 i c = 0
     ·have hb : ((M1 i c) != 0) = false := bne_eq_false_iff_eq.2 hz
      have HZ1 := Lib.hid hz
      clear hz
      go_wp2
      go_roundw
      case rel => exact ⟨i + 1, Qa, Q2, Lib.hid (by rw [bz_ _ _ _ Qa]; exact HO.out), Lib.hid (fun i' h1 h2 => by rcases Nat.lt_or_ge i' i with h3 | h3; exact HZ.out i' h1 h3; rw [show i' = i from by omega]; exact HZ1.out), HW⟩
      case measure => simp [intOf]; omega
     ·have hb : ((M1 i c) != 0) = true := bne_iff_ne.2 hz
      have HS := Lib.hid (cy_ (R := R) (n := c) HG.out hiR Qa hz)
      clear hz
      go_wp2
      go_ret2
      exact ⟨_, by rw [HS.out]; rfl, by rw [HS.out]; exact Kd.yf_ _ _ _ _ _, vm_ HB.out (Nat.le_trans hbase HB.out.size) HW.out⟩
    obtain ⟨go, co, eo, hgo, hgl, _⟩ := Kd.mi_ HO.out (by rw [on_]; omega)
    rw [on_] at eo
    subst eo
    obtain ⟨sr, sf⟩ := Kd.sg_ 0 HO.out (i : Int) Qa Qa
    rw [Int.toNat_natCast] at sr sf
    have HP := Lib.hid (Kd.jn_ HO.out (i : Int) (M1 i c))
    go_wp2
    have HP2 := HP.out
    rw [Int.toNat_natCast, cz_] at HP2
    have HP3 := Lib.hid HP2
    have HW3 := Lib.hid (HW.out.setCell (p := ⟨go, i, none⟩) hgo (.int .i64 (M1 i c)))
    clear HP2 HP sr sf
    go_roundw
    case rel => exact ⟨i + 1, Qa, Q2, HP3, Lib.hid (fun i' h1 h2 => by omega), HW3⟩
    case measure => simp [intOf]; omega
  go_wp2
  go_loop [7] (fun v => ∃ r : Nat, c ≤ r ∧ r ≤ R ∧ v = .int .i64 r ∧ Hid (∀ i, c ≤ i → i < r → M1 i c = 0)) (fun v => R - (intOf v).toNat)
  case atStart => exact ⟨c, Nat.le_refl _, hcR, rfl, Lib.hid (fun i h1 h2 => by omega)⟩
  case round =>
   obtain ⟨r, hr1, hr2, rfl, HZ⟩ := hrel
   by_cases hrR : r < R
   rotate_left
   ·have hb : ((r : Int) == (R : Int)) = true := beq_iff_eq.2 Qa
    have hs := Lib.hid (pc1_ (n := n) HG.out (by have := io_ hr1 hr2 HZ.out (fun h => absurd h hrR); rw [this]; omega) hcn)
    go_wp2
    go_ret2
    exact ⟨_, by rw [hs.out]; rfl, by rw [hs.out]; exact Kd.yf_ _ _ _ _ _, HB.out⟩
   have fo := HM.out.out r hrR
   have fe := HM.out.cel r c hrR Qa
   by_cases hz : M1 r c = 0
   ·have hb : ((M1 r c) == 0) = true := beq_iff_eq.2 hz
    have HZ1 := Lib.hid hz
    clear hz
    go_wp2
    go_round
    case rel => exact ⟨r + 1, Qa, Qa, Q2, Lib.hid (fun i h1 h2 => by rcases Nat.lt_or_ge i r with h3 | h3; exact HZ.out i h1 h3; rw [show i = r from by omega]; exact HZ1.out)⟩
    case measure => simp [intOf]; omega
   have hb : ((M1 r c) == 0) = false := beq_eq_false_iff_ne.2 hz
   have HZ1 := Lib.hid hz
   clear hz
   go_wp2
   have HM1 := Lib.hid (HM.out.drew)
   have hcR2 : c < R := by omega
   have HB1 := Lib.hid (ca_ HB.out)
   refine kh_ (n := 16) (S := fun w' => w'.cell? ⟨g, r, none⟩ = some (.slice (some ⟨h r, 0, none⟩) (n + 1) (cc r)) ∧ w'.cell? ⟨g, c, none⟩ = some (.slice (some ⟨h c, 0, none⟩) (n + 1) (cc c))) (ds := [13, 15]) Y7 Qb rfl rfl ⟨HM1.out.out r hrR, HM1.out.out c Qa⟩ (fun hHeld => ?_)
   generalize wo.drew = w1 at HM1 HB1 hHeld ⊢
   have sr := HM1.out.out c Qa
   have sf := HM1.out.fro c Qa
   have sg := HM1.out.fro r hrR
   obtain ⟨vr, hvr⟩ := ar_ (HM1.out.out r hrR) ⟨g, c, none⟩ (.slice (some ⟨h r, 0, none⟩) (n + 1) (cc r))
   refine oc_ (i := 0) (N := some 47) (v := ?_) (a' := ?_) Y8 rfl rfl Qb Qd (Or.inl ⟨by rfl, ?_⟩) ?_ ?_
   rotate_left
   ·exact Qf
   rotate_left
   ·exact Qc
   refine oc_ (i := 1) (N := some 48) (v := ?_) (a' := ?_) Y9 rfl rfl Qb Qd (Or.inl ⟨by rfl, ?_⟩) ?_ ?_
   rotate_left
   ·exact Qf
   rotate_left
   ·exact Qc
   refine oc_ (i := 2) (N := some 49) (v := ?_) (a' := ?_) Qaa rfl rfl Qb Qd (Or.inl ⟨by rfl, ?_⟩) ?_ ?_
   rotate_left
   ·exact Qf
   rotate_left
   ·exact Qc
   refine oc_ (i := 3) (N := some 50) (v := ?_) (a' := ?_) #[true, true, true, true, false, false, false, false, false, false, false, false, false, false, false, false] rfl rfl Qb Qd (Or.inl ⟨by rfl, ?_⟩) ?_ ?_
   rotate_left
   ·exact Qf
   rotate_left
   ·exact Qc
   refine oc_ (i := 4) (N := some 51) (v := ?_) (a' := ?_) #[true, true, true, true, true, false, false, false, false, false, false, false, false, false, false, false] rfl rfl Qb Qd (Or.inl ⟨by rfl, ?_⟩) ?_ ?_
   rotate_left
   ·exact Qf
   rotate_left
   ·exact Qc
   refine oc_ (i := 5) (N := some 52) (v := ?_) (a' := ?_) #[true, true, true, true, true, true, false, false, false, false, false, false, false, false, false, false] rfl rfl Qb Qd (Or.inl ⟨by rfl, ?_⟩) ?_ ?_
   rotate_left
   ·exact Qf
   rotate_left
   ·exact Qc
   refine oc_ (i := 6) (N := some 53) (v := ?_) (a' := ?_) #[true, true, true, true, true, true, true, false, false, false, false, false, false, false, false, false] rfl rfl Qb Qd (Or.inl ⟨by rfl, ?_⟩) ?_ ?_
   rotate_left
   ·exact Qf
   rotate_left
   ·exact Qc
   refine oc_ (i := 8) (N := some 55) (v := ?_) (a' := ?_) #[true, true, true, true, true, true, true, false, true, false, false, false, false, false, false, false] rfl rfl Qb Qd (Or.inl ⟨by rfl, ?_⟩) ?_ ?_
   rotate_left
   ·exact Qf
   rotate_left
   ·exact Qc
   refine oc_ (i := 9) (N := some 56) (v := ?_) (a' := ?_) #[true, true, true, true, true, true, true, false, true, true, false, false, false, false, false, false] rfl rfl Qb Qd (Or.inl ⟨by rfl, ?_⟩) ?_ ?_
   rotate_left
   ·exact Qf
   rotate_left
   ·exact Qc
   refine oc_ (i := 10) (N := some 57) (v := ?_) (a' := ?_) #[true, true, true, true, true, true, true, false, true, true, true, false, false, false, false, false] rfl rfl Qb Qd (Or.inl ⟨by rfl, ?_⟩) ?_ ?_
   rotate_left
   ·exact Qf
   rotate_left
   ·exact Qc
   refine df_ (i := 7) (N := some 54) (v := ?_) (a' := ?_) #[true, true, true, true, true, true, true, true, true, true, true, false, false, false, false, false] rfl rfl Qb Qd (Or.inl ⟨by rfl, ?_⟩) hHeld ?_ ?_
   rotate_left
   ·exact Xd
   rotate_left
   ·exact Qc
   refine df_ (i := 11) (N := some 58) (v := ?_) (a' := ?_) #[true, true, true, true, true, true, true, true, true, true, true, true, false, false, false, false] rfl rfl Qb Qd (Or.inl ⟨by rfl, ?_⟩) hHeld ?_ ?_
   rotate_left
   ·exact Xd
   rotate_left
   ·exact Qc
   refine oc_ (i := 12) (N := some 59) (v := ?_) (a' := ?_) Qab rfl rfl Qb Qd (Or.inl ⟨by rfl, ?_⟩) ?_ ?_
   rotate_left
   ·exact Qf
   rotate_left
   ·exact Qc
   refine np_ (i := 13) (N := none) Qac rfl rfl Qb Qh (fun K hK => ?_)
   refine xl_ (w1 := ?_) (by rfl) rfl ?_ ?_
   rotate_left
   ·go_simp
    rfl
   refine hK.out _ _ ?_
   clear hK K
   refine oc_ (i := 14) (N := some 60) (v := ?_) (a' := ?_) Qad rfl rfl Qb Qd (Or.inl ⟨by rfl, ?_⟩) ?_ ?_
   rotate_left
   ·exact Qf
   rotate_left
   ·exact Qc
   refine np_ (i := 15) (N := none) Qae rfl rfl Qb Qh (fun K hK => ?_)
   refine xl_ (w1 := ?_) (by rfl) rfl ?_ ?_
   rotate_left
   ·go_simp
    rfl
   refine hK.out _ _ ?_
   clear hK K
   refine jk_ Qb ?_
   have HM2 := Lib.hid (Mat.swap HM1.out c r hcR2 hrR)
   have HB2 := Lib.hid ((HB1.out.setCell (p := ⟨g, c, none⟩) HM1.out.lg (.slice (some ⟨h r, 0, none⟩) (n + 1) (cc r))).setCell (p := ⟨g, r, none⟩) HM1.out.lg (.slice (some ⟨h c, 0, none⟩) (n + 1) (cc c)))
   clear sr sf sg hvr
   generalize (w1.setCell ⟨g, c, none⟩ (.slice (some ⟨h r, 0, none⟩) (n + 1) (cc r))).setCell ⟨g, r, none⟩ (.slice (some ⟨h c, 0, none⟩) (n + 1) (cc c)) = w2 at HM2 HB2 ⊢
   obtain ⟨h2, hh2⟩ : ∃ x, x = dg_ h c r := ⟨_, rfl⟩
   obtain ⟨cc2, hcc2⟩ : ∃ x, x = dg_ cc c r := ⟨_, rfl⟩
   obtain ⟨M2, hM2⟩ : ∃ x, x = dg_ M1 c r := ⟨_, rfl⟩
   obtain ⟨b, hbb⟩ : ∃ x, x = invI (M2 c c) := ⟨_, rfl⟩
   rw [← hh2, ← hcc2, ← hM2] at HM2
   have HE := Lib.hid hM2
   have HI := Lib.hid hbb
   clear hM2 hbb hh2 hcc2 hHeld HM1 HB1
   have fo2 := HM2.out.out c hcR2
   have fe2 := HM2.out.cel c c hcR2 Qa
   have mi := cu_
   go_wp2_with (first | (go_at_call 157; refine (jp_.calls _ _ _ rfl).mono ?_; rintro e w' ⟨rfl, ⟨nd, rfl⟩⟩; rw [← HI.out]))
   have HM3 := Lib.hid (HM2.out.drewN nd)
   have HB3 := Lib.hid (aa_ HB2.out nd)
   clear HM2 HB2 fo2 fe2 mi
   generalize w2.drewN nd = w3 at HM3 HB3 ⊢
   go_loopw [75] (fun v wr => ∃ k : Nat, k ≤ n + 1 ∧ v = .int .i64 k ∧ Hid (Mat wr base g R (n + 1) h2 cc2 (zh_ M2 c b k)) ∧ Hid (Below base w wr)) (fun v _ => n + 1 - (intOf v).toNat)
   case atStart => exact ⟨0, Nat.zero_le _, rfl, Lib.hid (by rw [sn_]; exact HM3.out), HB3⟩
   case round =>
    clear HM3 HB3
    obtain ⟨k, hk, rfl, HM, HB⟩ := hrel
    obtain ⟨w4, rfl⟩ : ∃ x : World, x = wr := ⟨_, rfl⟩
    by_cases hkn : k < n + 1
    ·go_wp2
     have HM1 := Lib.hid (HM.out.drew)
     have HB1 := Lib.hid (ca_ HB.out)
     have fe : w4.drew.cell? ⟨h2 c, k, none⟩ = some (.int .i64 (M2 c k)) := by have := HM1.out.cel c k hcR2 hkn; rwa [sr_] at this
     have mt := gr_
     refine kh_ (n := 17) (S := fun w' => w'.cell? ⟨g, c, none⟩ = some (.slice (some ⟨h2 c, 0, none⟩) (n + 1) (cc2 c)) ∧ w'.cell? ⟨h2 c, k, none⟩ = some (.int .i64 (M2 c k))) (ds := [16]) #[false, false, false, false, false, false, false, false, false, false, false, false, false, false, false, false, false] Qb rfl rfl ⟨HM1.out.out c hcR2, fe⟩ (fun hHeld => ?_)
     generalize w4.drew = w5 at HM1 HB1 hHeld ⊢
     clear fe
     refine oc_ (i := 0) (N := some 78) (v := ?_) (a' := ?_) #[true, false, false, false, false, false, false, false, false, false, false, false, false, false, false, false, false] rfl rfl Qb Qd (Or.inl ⟨by rfl, ?_⟩) ?_ ?_
     rotate_left
     ·exact Qf
     rotate_left
     ·exact Qc
     refine oc_ (i := 1) (N := some 79) (v := ?_) (a' := ?_) #[true, true, false, false, false, false, false, false, false, false, false, false, false, false, false, false, false] rfl rfl Qb Qd (Or.inl ⟨by rfl, ?_⟩) ?_ ?_
     rotate_left
     ·exact Qf
     rotate_left
     ·exact Qc
     refine oc_ (i := 2) (N := some 80) (v := ?_) (a' := ?_) #[true, true, true, false, false, false, false, false, false, false, false, false, false, false, false, false, false] rfl rfl Qb Qd (Or.inl ⟨by rfl, ?_⟩) ?_ ?_
     rotate_left
     ·exact Qf
     rotate_left
     ·exact Qc
     refine oc_ (i := 4) (N := some 82) (v := ?_) (a' := ?_) #[true, true, true, false, true, false, false, false, false, false, false, false, false, false, false, false, false] rfl rfl Qb Qd (Or.inl ⟨by rfl, ?_⟩) ?_ ?_
     rotate_left
     ·exact Qf
     rotate_left
     ·exact Qc
     refine oc_ (i := 5) (N := some 83) (v := ?_) (a' := ?_) #[true, true, true, false, true, true, false, false, false, false, false, false, false, false, false, false, false] rfl rfl Qb Qd (Or.inl ⟨by rfl, ?_⟩) ?_ ?_
     rotate_left
     ·exact Qf
     rotate_left
     ·exact Qc
     refine oc_ (i := 6) (N := some 84) (v := ?_) (a' := ?_) #[true, true, true, false, true, true, true, false, false, false, false, false, false, false, false, false, false] rfl rfl Qb Qd (Or.inl ⟨by rfl, ?_⟩) ?_ ?_
     rotate_left
     ·exact Qf
     rotate_left
     ·exact Qc
     refine oc_ (i := 7) (N := some 85) (v := ?_) (a' := ?_) #[true, true, true, false, true, true, true, true, false, false, false, false, false, false, false, false, false] rfl rfl Qb Qd (Or.inl ⟨by rfl, ?_⟩) ?_ ?_
     rotate_left
     ·exact Qf
     rotate_left
     ·exact Qc
     refine oc_ (i := 9) (N := some 87) (v := ?_) (a' := ?_) #[true, true, true, false, true, true, true, true, false, true, false, false, false, false, false, false, false] rfl rfl Qb Qd (Or.inl ⟨by rfl, ?_⟩) ?_ ?_
     rotate_left
     ·exact Qf
     rotate_left
     ·exact Qc
     refine oc_ (i := 13) (N := some 91) (v := ?_) (a' := ?_) #[true, true, true, false, true, true, true, true, false, true, false, false, false, true, false, false, false] rfl rfl Qb Qd (Or.inl ⟨by rfl, ?_⟩) ?_ ?_
     rotate_left
     ·exact Qf
     rotate_left
     ·exact Qc
     refine df_ (i := 3) (N := some 81) (v := ?_) (a' := ?_) #[true, true, true, true, true, true, true, true, false, true, false, false, false, true, false, false, false] rfl rfl Qb Qd (Or.inl ⟨by rfl, ?_⟩) hHeld ?_ ?_
     rotate_left
     ·exact Xd
     rotate_left
     ·exact Qc
     refine df_ (i := 8) (N := some 86) (v := ?_) (a' := ?_) #[true, true, true, true, true, true, true, true, true, true, false, false, false, true, false, false, false] rfl rfl Qb Qd (Or.inl ⟨by rfl, ?_⟩) hHeld ?_ ?_
     rotate_left
     ·exact Xd
     rotate_left
     ·exact Qc
     refine oc_ (i := 10) (N := some 88) (v := ?_) (a' := ?_) #[true, true, true, true, true, true, true, true, true, true, true, false, false, true, false, false, false] rfl rfl Qb Qd (Or.inl ⟨by rfl, ?_⟩) ?_ ?_
     rotate_left
     ·exact Qf
     rotate_left
     ·exact Qc
     refine df_ (i := 11) (N := some 89) (v := ?_) (a' := ?_) #[true, true, true, true, true, true, true, true, true, true, true, true, false, true, false, false, false] rfl rfl Qb Qd (Or.inl ⟨by rfl, ?_⟩) hHeld ?_ ?_
     rotate_left
     ·exact Xd
     rotate_left
     ·exact Qc
     refine oc_ (i := 12) (N := some 90) (v := ?_) (a' := ?_) #[true, true, true, true, true, true, true, true, true, true, true, true, true, true, false, false, false] rfl rfl Qb Qd (Or.inl ⟨by rfl, ?_⟩) ?_ ?_
     rotate_left
     ·exact Qf
     rotate_left
     ·exact Qc
     refine one_ (i := 14) (N := some 92) #[true, true, true, true, true, true, true, true, true, true, true, true, true, true, true, false, false] rfl rfl Qb Qh (fun K hK => ?_)
     refine id1_ 116 #[.int .i64 (M2 c k), .int .i64 b] (by rfl) rfl (by go_simp) ?_
     with_reducible refine (ig_.calls (M2 c k) b _ _ rfl).mono ?_
     rintro e w' ⟨rfl, ⟨nd, rfl⟩⟩
     refine ⟨_, rfl, ?_⟩
     have HM5 := Lib.hid (HM1.out.drewN nd)
     have HB5 := Lib.hid (aa_ HB1.out nd)
     have sr := HM5.out.cel c k hcR2 hkn
     have sf := HM5.out.frc c k hcR2 hkn
     refine hK.out _ _ ⟨hHeld.1, hHeld.2⟩ (fun hHeld => ?_)
     clear hK K
     refine kk_ (a' := ?_) ?_ ?_
     rotate_left
     ·show Act.put _ (some 92) _ = _
      simp only [Act.put, List.setIfInBounds_toArray, List.set_cons_zero, List.set_cons_succ, yb_, ac_]
      rfl
     refine oc_ (i := 15) (N := some 93) (v := ?_) (a' := ?_) #[true, true, true, true, true, true, true, true, true, true, true, true, true, true, true, true, false] rfl rfl Qb Qd (Or.inl ⟨by rfl, ?_⟩) ?_ ?_
     rotate_left
     ·exact Qf
     rotate_left
     ·exact Qc
     refine np_ (i := 16) (N := none) #[true, true, true, true, true, true, true, true, true, true, true, true, true, true, true, true, true] rfl rfl Qb Qh (fun K hK => ?_)
     refine xl_ (w1 := ?_) (by rfl) rfl ?_ ?_
     rotate_left
     ·go_simp
      rfl
     refine hK.out _ _ ?_
     clear hK K
     refine jk_ Qb ?_
     have HM6 := Lib.hid (Mat.set HM5.out c k hcR2 hkn (mulI (M2 c k) b))
     have HB6 := Lib.hid (HB5.out.setCell (p := ⟨h2 c, k, none⟩) (HM5.out.lo c hcR2) (.int .i64 (mulI (M2 c k) b)))
     clear sr sf HM5 HB5 hHeld HM1 HB1
     generalize (w5.drewN nd).setCell ⟨h2 c, k, none⟩ (.int .i64 (mulI (M2 c k) b)) = w6 at HM6 HB6 ⊢
     go_wp2
     go_roundw
     case rel => exact ⟨k + 1, Qa, Q2, Lib.hid (by rw [← rn_]; exact HM6.out), HB6⟩
     case measure => simp [intOf]; omega
    obtain rfl : k = n + 1 := by omega
    obtain ⟨M3, hM3⟩ : ∃ x, x = zh_ M2 c b (n + 1) := ⟨_, rfl⟩
    rw [← hM3] at HM
    have HF := Lib.hid hM3
    clear hM3
    go_wp2
    go_loopw [97] (fun v wr => ∃ i : Nat, i ≤ R ∧ v = .int .i64 i ∧ Hid (Mat wr base g R (n + 1) h2 cc2 (rh_ M3 c i)) ∧ Hid (Below base w wr)) (fun v _ => R - (intOf v).toNat)
    case atStart => exact ⟨0, Nat.zero_le _, rfl, Lib.hid (by rw [ep_]; exact HM.out), HB⟩
    case round =>
     clear HM HB
     obtain ⟨i, hi, rfl, HM, HB⟩ := hrel
     obtain ⟨w7, rfl⟩ : ∃ x : World, x = wr := ⟨_, rfl⟩
     by_cases hiR : i < R
     rotate_left
     ·obtain rfl : i = R := by omega
      go_wp2
      go_roundw
      case rel => exact ⟨c + 1, Qa, Qa, Q2, h2, cc2, rq_ M1 c r, Lib.hid (by rw [gjI, HG.out]; have hp := io_ hr1 hr2 HZ.out (fun _ => HZ1.out); simp only [hp]; rw [if_neg Qa]), Lib.hid (HM.out.congr (fun i' k' hi' hk' => by rw [cr_ M3 (tj_ M2 c b) c i (n + 1) (fun i k hk => by rw [HF.out]; exact bq_ M2 c b (n + 1) i k hk) Qa i' k' hi' hk']; unfold rq_; rw [← HE.out, ← HI.out])), HB⟩
      case measure => simp [intOf]; omega
     have fo := HM.out.out i hiR
     have fe : w7.cell? ⟨h2 i, c, none⟩ = some (.int .i64 (M3 i c)) := by have := HM.out.cel i c hiR Qa; rwa [ok_] at this
     by_cases hic : i = c
     ·have hb : ((i : Int) != (c : Int)) = false := by simp; omega
      have HK := Lib.hid (wj_ M3 c i (.inl hic))
      clear hic
      go_wp2
      go_roundw
      case rel => exact ⟨i + 1, Qa, Q2, Lib.hid (by rw [HK.out]; exact HM.out), HB⟩
      case measure => simp [intOf]; omega
     have hb : ((i : Int) != (c : Int)) = true := by simp; omega
     by_cases hz : M3 i c = 0
     ·have hb2 : ((M3 i c) != 0) = false := bne_eq_false_iff_eq.2 hz
      have HK := Lib.hid (wj_ M3 c i (.inr hz))
      clear hz
      go_wp2
      go_roundw
      case rel => exact ⟨i + 1, Qa, Q2, Lib.hid (by rw [HK.out]; exact HM.out), HB⟩
      case measure => simp [intOf]; omega
     have hb2 : ((M3 i c) != 0) = true := bne_iff_ne.2 hz
     have HK := Lib.hid hz
     clear hz
     go_wp2
     go_loopw [120] (fun v wr => ∃ k : Nat, k ≤ n + 1 ∧ v = .int .i64 k ∧ Hid (Mat wr base g R (n + 1) h2 cc2 (tg_ M3 c i k)) ∧ Hid (Below base w wr)) (fun v _ => n + 1 - (intOf v).toNat)
     case atStart => exact ⟨0, Nat.zero_le _, rfl, Lib.hid (by rw [ln_]; exact HM.out), HB⟩
     case round =>
      clear HM HB fo fe
      obtain ⟨k, hk, rfl, HM, HB⟩ := hrel
      obtain ⟨w8, rfl⟩ : ∃ x : World, x = wr := ⟨_, rfl⟩
      by_cases hkn : k < n + 1
      rotate_left
      ·obtain rfl : k = n + 1 := by omega
       go_wp2
       go_roundw
       case rel => exact ⟨i + 1, Qa, Q2, Lib.hid (HM.out.congr (fun i' k' _ hk' => dp_ M3 c i (n + 1) hic HK.out i' k' hk')), HB⟩
       case measure => simp [intOf]; omega
      go_wp2
      have HM1 := Lib.hid (HM.out.drew)
      have HB1 := Lib.hid (ca_ HB.out)
      have fi : w8.drew.cell? ⟨h2 i, k, none⟩ = some (.int .i64 (M3 i k)) := by have := HM1.out.cel i k hiR hkn; rwa [dl_] at this
      have fc : w8.drew.cell? ⟨h2 c, k, none⟩ = some (.int .i64 (M3 c k)) := by have := HM1.out.cel c k hcR2 hkn; rwa [vj_ _ _ _ _ _ hic] at this
      have mt := gr_
      have mp := tb1_
      refine kh_ (n := 26) (S := fun w' => w'.cell? ⟨g, i, none⟩ = some (.slice (some ⟨h2 i, 0, none⟩) (n + 1) (cc2 i)) ∧ w'.cell? ⟨h2 i, k, none⟩ = some (.int .i64 (M3 i k)) ∧ w'.cell? ⟨g, c, none⟩ = some (.slice (some ⟨h2 c, 0, none⟩) (n + 1) (cc2 c)) ∧ w'.cell? ⟨h2 c, k, none⟩ = some (.int .i64 (M3 c k))) (ds := [25]) #[false, false, false, false, false, false, false, false, false, false, false, false, false, false, false, false, false, false, false, false, false, false, false, false, false, false] Qb rfl rfl ⟨HM1.out.out i hiR, fi, HM1.out.out c hcR2, fc⟩ (fun hHeld => ?_)
      generalize w8.drew = w9 at HM1 HB1 hHeld ⊢
      clear fi fc
      refine oc_ (i := 0) (N := some 123) (v := ?_) (a' := ?_) #[true, false, false, false, false, false, false, false, false, false, false, false, false, false, false, false, false, false, false, false, false, false, false, false, false, false] rfl rfl Qb Qd (Or.inl ⟨by rfl, ?_⟩) ?_ ?_
      rotate_left
      ·exact Qf
      rotate_left
      ·exact Qc
      refine oc_ (i := 1) (N := some 124) (v := ?_) (a' := ?_) #[true, true, false, false, false, false, false, false, false, false, false, false, false, false, false, false, false, false, false, false, false, false, false, false, false, false] rfl rfl Qb Qd (Or.inl ⟨by rfl, ?_⟩) ?_ ?_
      rotate_left
      ·exact Qf
      rotate_left
      ·exact Qc
      refine oc_ (i := 2) (N := some 125) (v := ?_) (a' := ?_) #[true, true, true, false, false, false, false, false, false, false, false, false, false, false, false, false, false, false, false, false, false, false, false, false, false, false] rfl rfl Qb Qd (Or.inl ⟨by rfl, ?_⟩) ?_ ?_
      rotate_left
      ·exact Qf
      rotate_left
      ·exact Qc
      refine oc_ (i := 4) (N := some 127) (v := ?_) (a' := ?_) #[true, true, true, false, true, false, false, false, false, false, false, false, false, false, false, false, false, false, false, false, false, false, false, false, false, false] rfl rfl Qb Qd (Or.inl ⟨by rfl, ?_⟩) ?_ ?_
      rotate_left
      ·exact Qf
      rotate_left
      ·exact Qc
      refine oc_ (i := 5) (N := some 128) (v := ?_) (a' := ?_) #[true, true, true, false, true, true, false, false, false, false, false, false, false, false, false, false, false, false, false, false, false, false, false, false, false, false] rfl rfl Qb Qd (Or.inl ⟨by rfl, ?_⟩) ?_ ?_
      rotate_left
      ·exact Qf
      rotate_left
      ·exact Qc
      refine oc_ (i := 6) (N := some 129) (v := ?_) (a' := ?_) #[true, true, true, false, true, true, true, false, false, false, false, false, false, false, false, false, false, false, false, false, false, false, false, false, false, false] rfl rfl Qb Qd (Or.inl ⟨by rfl, ?_⟩) ?_ ?_
      rotate_left
      ·exact Qf
      rotate_left
      ·exact Qc
      refine oc_ (i := 7) (N := some 130) (v := ?_) (a' := ?_) #[true, true, true, false, true, true, true, true, false, false, false, false, false, false, false, false, false, false, false, false, false, false, false, false, false, false] rfl rfl Qb Qd (Or.inl ⟨by rfl, ?_⟩) ?_ ?_
      rotate_left
      ·exact Qf
      rotate_left
      ·exact Qc
      refine oc_ (i := 9) (N := some 132) (v := ?_) (a' := ?_) #[true, true, true, false, true, true, true, true, false, true, false, false, false, false, false, false, false, false, false, false, false, false, false, false, false, false] rfl rfl Qb Qd (Or.inl ⟨by rfl, ?_⟩) ?_ ?_
      rotate_left
      ·exact Qf
      rotate_left
      ·exact Qc
      refine oc_ (i := 13) (N := some 136) (v := ?_) (a' := ?_) #[true, true, true, false, true, true, true, true, false, true, false, false, false, true, false, false, false, false, false, false, false, false, false, false, false, false] rfl rfl Qb Qd (Or.inl ⟨by rfl, ?_⟩) ?_ ?_
      rotate_left
      ·exact Qf
      rotate_left
      ·exact Qc
      refine oc_ (i := 14) (N := some 137) (v := ?_) (a' := ?_) #[true, true, true, false, true, true, true, true, false, true, false, false, false, true, true, false, false, false, false, false, false, false, false, false, false, false] rfl rfl Qb Qd (Or.inl ⟨by rfl, ?_⟩) ?_ ?_
      rotate_left
      ·exact Qf
      rotate_left
      ·exact Qc
      refine oc_ (i := 15) (N := some 138) (v := ?_) (a' := ?_) #[true, true, true, false, true, true, true, true, false, true, false, false, false, true, true, true, false, false, false, false, false, false, false, false, false, false] rfl rfl Qb Qd (Or.inl ⟨by rfl, ?_⟩) ?_ ?_
      rotate_left
      ·exact Qf
      rotate_left
      ·exact Qc
      refine oc_ (i := 16) (N := some 139) (v := ?_) (a' := ?_) #[true, true, true, false, true, true, true, true, false, true, false, false, false, true, true, true, true, false, false, false, false, false, false, false, false, false] rfl rfl Qb Qd (Or.inl ⟨by rfl, ?_⟩) ?_ ?_
      rotate_left
      ·exact Qf
      rotate_left
      ·exact Qc
      refine oc_ (i := 17) (N := some 140) (v := ?_) (a' := ?_) #[true, true, true, false, true, true, true, true, false, true, false, false, false, true, true, true, true, true, false, false, false, false, false, false, false, false] rfl rfl Qb Qd (Or.inl ⟨by rfl, ?_⟩) ?_ ?_
      rotate_left
      ·exact Qf
      rotate_left
      ·exact Qc
      refine oc_ (i := 19) (N := some 142) (v := ?_) (a' := ?_) #[true, true, true, false, true, true, true, true, false, true, false, false, false, true, true, true, true, true, false, true, false, false, false, false, false, false] rfl rfl Qb Qd (Or.inl ⟨by rfl, ?_⟩) ?_ ?_
      rotate_left
      ·exact Qf
      rotate_left
      ·exact Qc
      refine df_ (i := 3) (N := some 126) (v := ?_) (a' := ?_) #[true, true, true, true, true, true, true, true, false, true, false, false, false, true, true, true, true, true, false, true, false, false, false, false, false, false] rfl rfl Qb Qd (Or.inl ⟨by rfl, ?_⟩) hHeld ?_ ?_
      rotate_left
      ·exact Xp
      rotate_left
      ·exact Qc
      refine df_ (i := 8) (N := some 131) (v := ?_) (a' := ?_) #[true, true, true, true, true, true, true, true, true, true, false, false, false, true, true, true, true, true, false, true, false, false, false, false, false, false] rfl rfl Qb Qd (Or.inl ⟨by rfl, ?_⟩) hHeld ?_ ?_
      rotate_left
      ·exact Xp
      rotate_left
      ·exact Qc
      refine oc_ (i := 10) (N := some 133) (v := ?_) (a' := ?_) #[true, true, true, true, true, true, true, true, true, true, true, false, false, true, true, true, true, true, false, true, false, false, false, false, false, false] rfl rfl Qb Qd (Or.inl ⟨by rfl, ?_⟩) ?_ ?_
      rotate_left
      ·exact Qf
      rotate_left
      ·exact Qc
      refine df_ (i := 11) (N := some 134) (v := ?_) (a' := ?_) #[true, true, true, true, true, true, true, true, true, true, true, true, false, true, true, true, true, true, false, true, false, false, false, false, false, false] rfl rfl Qb Qd (Or.inl ⟨by rfl, ?_⟩) hHeld ?_ ?_
      rotate_left
      ·exact Xp
      rotate_left
      ·exact Qc
      refine oc_ (i := 12) (N := some 135) (v := ?_) (a' := ?_) #[true, true, true, true, true, true, true, true, true, true, true, true, true, true, true, true, true, true, false, true, false, false, false, false, false, false] rfl rfl Qb Qd (Or.inl ⟨by rfl, ?_⟩) ?_ ?_
      rotate_left
      ·exact Qf
      rotate_left
      ·exact Qc
      refine df_ (i := 18) (N := some 141) (v := ?_) (a' := ?_) #[true, true, true, true, true, true, true, true, true, true, true, true, true, true, true, true, true, true, true, true, false, false, false, false, false, false] rfl rfl Qb Qd (Or.inl ⟨by rfl, ?_⟩) hHeld ?_ ?_
      rotate_left
      ·exact Xp
      rotate_left
      ·exact Qc
      refine oc_ (i := 20) (N := some 143) (v := ?_) (a' := ?_) #[true, true, true, true, true, true, true, true, true, true, true, true, true, true, true, true, true, true, true, true, true, false, false, false, false, false] rfl rfl Qb Qd (Or.inl ⟨by rfl, ?_⟩) ?_ ?_
      rotate_left
      ·exact Qf
      rotate_left
      ·exact Qc
      refine df_ (i := 21) (N := some 144) (v := ?_) (a' := ?_) #[true, true, true, true, true, true, true, true, true, true, true, true, true, true, true, true, true, true, true, true, true, true, false, false, false, false] rfl rfl Qb Qd (Or.inl ⟨by rfl, ?_⟩) hHeld ?_ ?_
      rotate_left
      ·exact Xp
      rotate_left
      ·exact Qc
      refine one_ (i := 22) (N := some 145) #[true, true, true, true, true, true, true, true, true, true, true, true, true, true, true, true, true, true, true, true, true, true, true, false, false, false] rfl rfl Qb Qh (fun K hK => ?_)
      refine id1_ 116 #[.int .i64 (M3 i c), .int .i64 (M3 c k)] (by rfl) rfl (by go_simp) ?_
      with_reducible refine (ig_.calls (M3 i c) (M3 c k) _ _ rfl).mono ?_
      rintro e w' ⟨rfl, ⟨nd, rfl⟩⟩
      refine ⟨_, rfl, ?_⟩
      refine hK.out _ _ ⟨hHeld.1, hHeld.2.1, hHeld.2.2.1, hHeld.2.2.2⟩ (fun hHeld => ?_)
      clear hK K
      refine kk_ (a' := ?_) ?_ ?_
      rotate_left
      ·show Act.put _ (some 145) _ = _
       simp only [Act.put, List.setIfInBounds_toArray, List.set_cons_zero, List.set_cons_succ, yb_, ac_]
       rfl
      refine one_ (i := 23) (N := some 146) #[true, true, true, true, true, true, true, true, true, true, true, true, true, true, true, true, true, true, true, true, true, true, true, true, false, false] rfl rfl Qb Qh (fun K hK => ?_)
      refine id1_ 115 #[.int .i64 (M3 i k), .int .i64 (mulI (M3 i c) (M3 c k))] (by rfl) rfl (by go_simp) ?_
      with_reducible refine (fh_.calls (M3 i k) (mulI (M3 i c) (M3 c k)) _ _ rfl).mono ?_
      rintro e w' ⟨rfl, ⟨nd2, rfl⟩⟩
      refine ⟨_, rfl, ?_⟩
      have HM5 := Lib.hid ((HM1.out.drewN nd).drewN nd2)
      have HB5 := Lib.hid (aa_ (aa_ HB1.out nd) nd2)
      generalize (w9.drewN nd).drewN nd2 = w10 at HM5 HB5 ⊢
      have sr := HM5.out.cel i k hiR hkn
      have sf := HM5.out.frc i k hiR hkn
      refine hK.out _ _ ⟨HM5.out.out i hiR, by have := HM5.out.cel i k hiR hkn; rwa [dl_] at this, HM5.out.out c hcR2, by have := HM5.out.cel c k hcR2 hkn; rwa [vj_ _ _ _ _ _ hic] at this⟩ (fun hHeld => ?_)
      clear hK K
      refine kk_ (a' := ?_) ?_ ?_
      rotate_left
      ·show Act.put _ (some 146) _ = _
       simp only [Act.put, List.setIfInBounds_toArray, List.set_cons_zero, List.set_cons_succ, yb_, ac_]
       rfl
      refine oc_ (i := 24) (N := some 147) (v := ?_) (a' := ?_) #[true, true, true, true, true, true, true, true, true, true, true, true, true, true, true, true, true, true, true, true, true, true, true, true, true, false] rfl rfl Qb Qd (Or.inl ⟨by rfl, ?_⟩) ?_ ?_
      rotate_left
      ·exact Qf
      rotate_left
      ·exact Qc
      refine np_ (i := 25) (N := none) #[true, true, true, true, true, true, true, true, true, true, true, true, true, true, true, true, true, true, true, true, true, true, true, true, true, true] rfl rfl Qb Qh (fun K hK => ?_)
      refine xl_ (w1 := ?_) (by rfl) rfl ?_ ?_
      rotate_left
      ·go_simp
       rfl
      refine hK.out _ _ ?_
      clear hK K
      refine jk_ Qb ?_
      have HM6 := Lib.hid (Mat.set HM5.out i k hiR hkn (xorI (M3 i k) (mulI (M3 i c) (M3 c k))))
      have HB6 := Lib.hid (HB5.out.setCell (p := ⟨h2 i, k, none⟩) (HM5.out.lo i hiR) (.int .i64 (xorI (M3 i k) (mulI (M3 i c) (M3 c k)))))
      clear sr sf HM5 HB5 hHeld HM1 HB1
      generalize w10.setCell ⟨h2 i, k, none⟩ (.int .i64 (xorI (M3 i k) (mulI (M3 i c) (M3 c k)))) = w11 at HM6 HB6 ⊢
      go_wp2
      go_roundw
      case rel => exact ⟨k + 1, Qa, Q2, Lib.hid (by rw [← kn_]; exact HM6.out), HB6⟩
      case measure => simp [intOf]; omega
end Go.Proofs.YtpkhgapifnjbeaaGreatDoor.G
end
section
namespace Go.Proofs.YtpkhgapifnjbeaaGreatDoor.Rs
open GF
def gsum : Nat → (Nat → GF) → GF
 | 0, _ => 0
 | n + 1, f => gsum n f + f n
theorem fd_ {n : Nat} {f g : Nat → GF} (h : ∀ i, i < n → f i = g i) : gsum n f = gsum n g := by
 induction n with
 | zero => rfl
 | succ n ih => simp only [gsum]; rw [ih (fun i hi => h i Qa), h n Qa]
theorem fi_ (n : Nat) : gsum n (fun _ => 0) = 0 := by
 induction n with
 | zero => rfl
 | succ n ih => simp only [gsum]; rw [ih, add_zero]
theorem xj_ (n : Nat) (f g : Nat → GF) : gsum n (fun i => f i + g i) = gsum n f + gsum n g := by
 induction n with
 | zero => exact (add_zero 0).symm
 | succ n ih => simp only [gsum]; rw [ih]; ac_rfl
theorem gh_ (n : Nat) (c : GF) (f : Nat → GF) : gsum n (fun i => c * f i) = c * gsum n f := by
 induction n with
 | zero => exact (mul_zero c).symm
 | succ n ih => simp only [gsum]; rw [ih, mul_add]
theorem gm_ (n m : Nat) (f : Nat → Nat → GF) : gsum n (fun i => gsum m (f i)) = gsum m (fun j => gsum n (fun i => f i j)) := by
 induction n with
 | zero => simp only [gsum]; rw [fi_]
 | succ n ih => simp only [gsum]; rw [ih, ← xj_]
theorem yj_ (n : Nat) (f : Nat → GF) (p : Nat) (hp : p < n) (h : ∀ i, i < n → i ≠ p → f i = 0) : gsum n f = f p := by
 induction n with
 | zero => omega
 | succ n ih =>
  simp only [gsum]
  by_cases e : p = n
  ·subst e
   rw [fd_ (g := fun _ => 0) (fun i hi => h i Qa Qa), fi_, zero_add]
  ·rw [ih Qa (fun i hi hne => h i Qa hne), h n Qa (fun q => e q.symm), add_zero]
def vG (x : Int) : GF := if isEl x then toG x else 0
theorem vG_ofG (a : GF) : vG (ofG a) = a := by simp [vG, pg_, ug_]
theorem nn_ {x : Int} (h : isEl x = true) : ofG (vG x) = x := by
 have := (ge_ x).1 h
 simp [vG, h, xg_ this.1 this.2]
def psum (l : List Int) (j m : Nat) : GF := gsum m (fun i => vG (l.getD i 0) * ex (j * (l.length - 1 - i)))
def synI (l : List Int) : List Int := (List.range 6).map fun j => ofG (psum l (j + 1) l.length)
end Go.Proofs.YtpkhgapifnjbeaaGreatDoor.Rs
end
section
namespace Go.Proofs.YtpkhgapifnjbeaaGreatDoor.G
open RowKit Zw.PrintWords Zw.PrintLast Zw.PrintMore Rs
theorem kb1_ (C : Array Value) (xs : List Int) (i : Int) (h0 : 0 ≤ i) (h6 : i < 6) (hl : xs.length = 6) (hC : C = (nums .i64 xs).toArray) (W : World) :
  (Instr.index 88 (.agg C) (.int .i64 i)).run Tryz.prog W = .ok (.int .i64 (rd xs i)) W := by
 have hx : C[i.toNat]? = some (.int .i64 (rd xs i)) := by
  subst hC
  simp [nums, rd, List.getD_eq_getElem?_getD, List.getElem?_eq_getElem (show i.toNat < xs.length by omega)]
 have hi : 0 ≤ i ∧ i < 6 := ⟨h0, h6⟩
 simp [Instr.index, asIntOf, run_underlying Tryz.underlying88, hi, hx, go_sem]
theorem mul_mx (x : Int) (n : Nat) : mulI (mx x 0) (powI (n : Int)) = ofG (vG x * GF.ex n) := by
 have hp : powI (n : Int) = ofG (GF.ex n) := by
  unfold powI
  rw [show ((n : Int) % 31).toNat = n % 31 from by omega, ← GF.ot_]
 rw [hp]
 unfold mx
 by_cases h : x < 0
 ·rw [if_pos h, rj_]
  have : isEl x = false := by simp [isEl]; omega
  simp [vG, this, GF.zero_mul, ho_]
 rw [if_neg h]
 unfold mulI vG
 rw [pg_, ug_]
 by_cases hx : isEl x = true
 ·simp [hx]
 ·simp [hx, GF.zero_mul, ho_]
def mixS (l : List Int) (i j : Nat) : List Int := (List.range 6).map fun j' => ofG (psum l (j' + 1) (if j' < j then i + 1 else i))
theorem cw_ (l : List Int) (i j : Nat) : (mixS l i j).length = 6 := by simp [mixS]
theorem mh1_ (l : List Int) (i j : Nat) (h : j < 6) : rd (mixS l i j) (j : Int) = ofG (psum l (j + 1) i) := by
 simp [mixS, rd, List.getD_eq_getElem?_getD, h]
theorem ge1_ (l : List Int) (i j : Nat) (h : j < 6) : (mixS l i j).set j (ofG (psum l (j + 1) (i + 1))) = mixS l i (j + 1) := by
 apply List.ext_getElem
 ·simp [mixS]
 intro k h1 h2
 rw [List.getElem_set]
 simp only [mixS, List.getElem_map, List.getElem_range]
 by_cases e : j = k
 ·subst e; simp
 rw [if_neg e]
 have : k < j + 1 ↔ k < j := by omega
 simp [this]
theorem fe1_ (l : List Int) (i : Nat) : mixS l i 6 = mixS l (i + 1) 0 := by
 apply List.ext_getElem
 ·simp [mixS]
 intro k h1 h2
 simp [mixS] at h1 ⊢
 simp [h1]
open Go.Proofs.YtpkhgapifnjbeaaGreatDoor.S in
theorem syn_l1 (l : List Int) (hl : l.length ≤ 15) (i : Nat) (hi : i < l.length) : ∀ (d k j : Nat), j + d = 6 →
  ub_.l1 (d + 1 + k) l (mixS l i j) i (rd l i) l l.length i j = ub_.l0 k l (mixS l (i + 1) 0) l l.length (wrap64 ((i : Int) + 1)) := by
 intro d
 induction d with
 | zero =>
  intro k j hj
  obtain rfl : j = 6 := by omega
  rw [show 0 + 1 + k = k + 1 from by omega]
  simp only [ub_.l1]
  rw [if_neg Qh, fe1_]
 | succ d ih =>
  intro k j hj
  rw [show d + 1 + 1 + k = (d + 1 + k) + 1 from by omega]
  simp only [ub_.l1]
  rw [if_pos Qa, if_pos Qa, if_pos (by rw [cw_]; omega)]
  have e1 : wrap64 (wrap64 ((j : Int) + 1) * wrap64 (wrap64 ((l.length : Int) - 1) - (i : Int))) = (((j + 1) * (l.length - 1 - i) : Nat) : Int) := by
   have a1 : wrap64 ((j : Int) + 1) = ((j + 1 : Nat) : Int) := by unfold wrap64; omega
   have a2 : wrap64 (wrap64 ((l.length : Int) - 1) - (i : Int)) = ((l.length - 1 - i : Nat) : Int) := by
    rw [show wrap64 ((l.length : Int) - 1) = ((l.length - 1 : Nat) : Int) from by unfold wrap64; omega]
    unfold wrap64; omega
   rw [a1, a2, ← Int.natCast_mul]
   have : (j + 1) * (l.length - 1 - i) ≤ 6 * 15 := Nat.mul_le_mul Qa Qa
   unfold wrap64
   omega
  rw [e1]
  simp only [zm_.f, xv_.f, Option.bind_some]
  rw [mul_mx, mh1_ l i j Qa, show Go.bits .xor .i64 (ofG (psum l (j + 1) i)) (ofG (vG (rd l ↑i) * GF.ex ((j + 1) * (l.length - 1 - i)))) = ofG (psum l (j + 1) i + vG (rd l ↑i) * GF.ex ((j + 1) * (l.length - 1 - i))) from zk_ _ _]
  have e2 : psum l (j + 1) i + vG (rd l ↑i) * GF.ex ((j + 1) * (l.length - 1 - i)) = psum l (j + 1) (i + 1) := by
   simp [psum, gsum, rd]
  rw [e2, show (j : Int).toNat = j from by omega, ge1_ l i j Qa, show wrap64 ((j : Int) + 1) = ((j + 1 : Nat) : Int) from by unfold wrap64; omega]
  exact ih k (j + 1) Qa
open Go.Proofs.YtpkhgapifnjbeaaGreatDoor.S in
theorem syn_l0 (l : List Int) (hl : l.length ≤ 15) : ∀ (d i : Nat), i + d = l.length → ∃ k, ub_.l0 k l (mixS l i 0) l l.length (i : Int) = some (synI l) := by
 intro d
 induction d with
 | zero =>
  intro i hi
  refine ⟨1, ?_⟩
  simp only [ub_.l0]
  rw [if_neg Qa]
  obtain rfl : i = l.length := by omega
  rfl
 | succ d ih =>
  intro i hi
  obtain ⟨k, hk⟩ := ih (i + 1) Qa
  refine ⟨6 + 1 + k + 1, ?_⟩
  simp only [ub_.l0]
  rw [if_pos Qa, if_pos Qa, if_pos Qa]
  have := syn_l1 l hl i Qa 6 k 0 Qa
  rw [show ((0 : Nat) : Int) = 0 from rfl] at this
  rw [this, show wrap64 ((i : Int) + 1) = ((i + 1 : Nat) : Int) from by unfold wrap64; omega]
  exact hk
def ml_.f (l : List Int) : Option (List Int) := if l.length ≤ 15 then some (synI l) else none
theorem ed1_ {C : Array Value} {xs : List Int} (h : C = (nums .i64 xs).toArray) (hl : xs.length = 6) : (Tryz.prog.info? 88).map (·.size) = some C.size := by
 rw [show C.size = 6 from by rw [h]; simp [nums, hl]]
 kernel_rfl
theorem gg1_ {C : Array Value} {xs : List Int} (h : C = (nums .i64 xs).toArray) (hl : xs.length = 6) : (6 : Nat) = C.size := by rw [h]; simp [nums, hl]
theorem fg1_ {C : Array Value} {xs : List Int} (h : C = (nums .i64 xs).toArray) : C.all (·.oneCell') = true := by rw [h]; simp [nums, Value.oneCell']
theorem eg1_ (e : Nat) (W : World) (base : Nat) {C : Array Value} {xs : List Int} (h : C = (nums .i64 xs).toArray) (hl : xs.length = 6) (hb : base ≤ W.heap.size) :
  Kd.R (Kd.int .i64) e (W.alloc (.cells C e)) base (fun _ => True) (.slice (some ⟨W.heap.size, 0, none⟩) 6 6) xs := by
 subst h
 have := kf1_ (W := W.alloc (.cells (nums .i64 xs).toArray e)) (e := e) (g := W.heap.size) (base := base) (ok := fun _ => True) xs (heap_alloc_new _ _) hb trivial Qa
 rwa [hl] at this
theorem zi_ {l r : List Int} (h : ml_.f l = some r) : r.length = 6 := by
 unfold ml_.f at h
 split at h
 ·rw [← Option.some.inj h]; simp [synI]
 ·cases h
open Go.Proofs.YtpkhgapifnjbeaaGreatDoor.S in
theorem ml_.calls (A0 : Option Addr) (c0 : Nat) (l0 : List Int) (r : List Int) (w : World) (hr0 : Kd.C (Kd.int .i64) w A0 l0.length l0) (hc0 : l0.length ≤ c0) (h : ml_.f l0 = some r) :
  Calls Tryz.prog 45 #[.slice A0 l0.length c0] w fun e w' => ∃ C : Array Value, C = (nums .i64 r).toArray ∧ e = .returned (.agg C) ∧ Below w.heap.size w w' := by
 unfold ml_.f at h
 by_cases hl : l0.length ≤ 15
 rotate_left
 ·rw [if_neg hl] at h
  cases h
 rw [if_pos hl] at h
 obtain ⟨k, hk⟩ := syn_l0 l0 hl l0.length 0 Qa
 refine (ub_.calls k A0 c0 l0 r w hr0 hc0 ?_).mono fun e w' ⟨he, hb⟩ => ⟨_, rfl, he, hb⟩
 unfold ub_.f
 rw [if_pos Qh, ← h]
 rw [show (List.replicate 6 (0 : Int)) = mixS l0 0 0 from by simp [mixS, psum, gsum, ho_, List.range_succ, List.replicate]]
 exact hk
def rf_ (xs : List (List Int)) : Nat → Nat → Int := fun i k => (xs.getD i []).getD k 0
def pr_ (xs : List (List Int)) (C : Nat) : Bool := decide (1 ≤ xs.length ∧ xs.length ≤ 100 ∧ 1 ≤ C ∧ C ≤ 101) && xs.all fun x => decide (x.length = C)
def xh_.f (xs : List (List Int)) : Option (List Int × Bool) :=
 if pr_ xs (xs.headD []).length = true then some (solR xs.length ((xs.headD []).length - 1) (rf_ xs)) else none
theorem xh_.calls (base : Nat) (ok : Nat → Prop) (A0 : Option Addr) (c0 : Nat) (l0 : List (List Int)) (r1 : List Int) (r2 : Bool) (w : World) (HS : Kd.S (Kd.slice 87 (Kd.int .i64)) 124 w base ok (.slice A0 l0.length c0) l0) (hb : base ≤ w.heap.size) (h : xh_.f l0 = some (r1, r2)) :
  Calls Tryz.prog 96 #[.slice A0 l0.length c0] w fun e w' => ∃ v0_ : Value, e = .returned (.tuple #[v0_, .bool r2]) ∧ Kd.R (Kd.int .i64) 87 w' w.heap.size (fun _ => True) v0_ r1 ∧ Below base w w' := by
 unfold xh_.f at h
 generalize (l0.headD []).length = C at h
 by_cases hk : pr_ l0 C = true
 rotate_left
 ·rw [if_neg hk] at h
  cases h
 rw [if_pos hk] at h
 unfold pr_ at hk
 simp only [Bool.and_eq_true, decide_eq_true_eq, List.all_eq_true] at hk
 obtain ⟨⟨h1, h2, h3, h4⟩, h5⟩ := hk
 obtain ⟨g, cap, hh, cc, he, hM⟩ := ee1_ HS Qa (fun x hx => by simpa using h5 x hx) Qa
 injection he with e1 _ e3
 subst e1
 subst e3
 have h6 := Option.some.inj h
 obtain ⟨n, rfl⟩ : ∃ n, C = n + 1 := ⟨C - 1, Qa⟩
 have := vz_ base g l0.length n c0 hh cc (rf_ l0) w hM h1 h2 Qa hb
 rw [show n + 1 - 1 = n from by omega] at h6
 unfold ga1_ at this
 rw [h6] at this
 exact this
end Go.Proofs.YtpkhgapifnjbeaaGreatDoor.G
end
section
namespace Go.Proofs.YtpkhgapifnjbeaaGreatDoor.C
open RowKit G Zw.PrintWords Zw.PrintLast Zw.PrintMore
attribute [local go_sem] id_ kd_ vd_ wd_ bd_ cd_ jd_ ld_
def errW : Option Int → Value
 | none => .nilIface
 | some c => .iface 0 (.int .i64 c)
theorem ta_ : errW none = .nilIface := rfl
theorem ua_ (c : Int) : errW (some c) = .iface 0 (.int .i64 c) := rfl
theorem gi_ : (Tryz.prog.info? 3).map (fun i => (i.zero, i.size, i.bytes)) = some (some (.int .i64 0), 1, 8) := by kernel_rfl
end Go.Proofs.YtpkhgapifnjbeaaGreatDoor.C
end
section
namespace Go.Proofs.YtpkhgapifnjbeaaGreatDoor.C
open RowKit G Zw.PrintWords Zw.PrintLast Zw.PrintMore
attribute [local go_sem] id_ kd_ vd_ wd_ bd_ cd_ jd_ ld_
def vf_.f (l0 : List Int) : Option (List Int) := (some (([] : List Int) : List Int)).bind fun y101 => (if y101.length + l0.length < 17592186044416 then (some (y101 ++ l0)) else (none))
set_option maxHeartbeats 8000000 in
set_option maxRecDepth 100000 in
theorem vf_.callsS (a0_ : Addr) (c0 : Nat) (l0 : List Int) (r : List Int) (w : World) (hr0 : Kd.C (Kd.int .i64) w (some a0_) l0.length l0) (hc0 : l0.length ≤ c0) (h : vf_.f l0 = some r) :
  Calls Tryz.prog 97 #[.slice (some a0_) l0.length c0] w fun e w' => ∃ v0_ : Value, e = .returned (v0_) ∧ Kd.R (Kd.int .i64) 3 w' w.heap.size (fun _ => True) v0_ r ∧ Below w.heap.size w w' := by
 have HR0 := ba_.mk hr0
 have HC0 := ba_.mk hc0
 clear hr0 hc0
 have HB := ba_.mk (Below.refl w.heap.size w)
 have H : ((some (([] : List Int) : List Int)).bind fun y101 => (if y101.length + l0.length < 17592186044416 then (some (y101 ++ l0)) else (none))) = some r := h
 clear h
 obtain ⟨y101, hy101⟩ : ∃ y_ : List Int, y_ = (([] : List Int)) := ⟨_, rfl⟩
 replace H : (if y101.length + l0.length < 17592186044416 then (some (y101 ++ l0)) else (none)) = some r := by first | (rw [hy101]; with_reducible exact H) | (have H2_ := (Option.bind_some _ _).symm.trans H; rw [hy101]; with_reducible exact H2_) | (have H2_ := (Option.bind_some _ _).symm.trans H; with_reducible exact H2_) | with_reducible exact H | (rw [hy101]; exact H) | exact H
 have Ny101 := ba_.mk hy101
 clear hy101
 obtain ⟨c2, H⟩ := Qn H
 have LMc2 := ba_.mk c2
 clear c2
 obtain ⟨y104, hy104⟩ : ∃ y_ : List Int, y_ = (y101 ++ l0) := ⟨_, rfl⟩
 replace H : (some y104) = some r := by first | (rw [hy104]; with_reducible exact H) | (have H2_ := (Option.bind_some _ _).symm.trans H; rw [hy104]; with_reducible exact H2_) | (have H2_ := (Option.bind_some _ _).symm.trans H; with_reducible exact H2_) | with_reducible exact H | (rw [hy104]; exact H) | exact H
 have Ny104 := ba_.mk hy104
 clear hy104
 obtain rfl := Option.some.inj H
 have qT : ∀ (w : World) (a : Option Addr) (n c n' c' : Nat), (binOp .eql 22 (.slice a n c) (.slice none n' c')).run Tryz.prog w = .ok (.bool a.isNone) w := fun w a n c n' c' => Lib.run_eql_slice_nil w _ _ a n c n' c' Tryz.underlying22
 go_enter Tryz.func97, Tryz.ntmps97
 go_wp2_with (first | ((with_reducible refine md_ (N := 5) rfl ?_); refine Kd.sm_ (Kd.int .i64) _ 3 ?hg (N := 5) ?hd (xs := ([] : List Int)) (inner := []) (ok := fun _ => True) (okp := fun _ => True) ?hr ?hp (fun _ hk => hk) trivial (Below.refl _ _) (Nat.le_refl _) Qo ?_; (case hd => rfl); (case hg => rfl); (case hr => exact Qt); (case hp => exact (Reps.none _ _)); intro v102 w3 ho4 hb hg_ hnew_; clear hg_ hnew_; (first | rw [← Ny101.out] at ho4 | (simp only [Int.reduceToNat] at ho4; rw [← Ny101.out] at ho4)); have n0_ := ba_.mk (Kd.td_ ho4 (za_ Qe)); have n1_ := ba_.mk (wa_ Qe hb); clear HB; have HO103 := n0_; have HB := n1_; clear n0_ n1_; clear hb ho4) | ((with_reducible refine xd_ (b := .append) (xs := #[.tmp 5, .tmp 6]) rfl ?_); at_builtin; refine Kd.pi_ (Kd.int .i64) (w0 := w) w.heap.size rfl (.tmp 5) (.tmp 6) 22 3 (.int .i64 0) 8 rfl Tryz.underlying22 gi_ rfl Qh Qa v102 y101 l0 _ _ _ (fun _ => True) (fun _ => False) rfl rfl ?aO ?aR (fun _ _ h => h) (fun _ h => h.elim) ?aF ?aB ?aS ?aL ?_; (case aR => exact Q9); (case aB => exact Q3); (case aF => exact Xc); (case aO => exact (Ql HO103.out)); (case aS => exact Q4); (case aL => have := LMc2.out; omega); intro v105 w5 ho hb hg hat; rw [← Ny104.out] at ho; have n0_ := ba_.mk (hb); have n1_ := ba_.mk (ho); clear HB; clear HO103; have HB := n0_; have HO106 := n1_; clear n0_ n1_; clear ho hb hg hat))
 go_ret
 exact ⟨_, Qq, by (with_reducible repeat (first | apply Kd.eb_ | apply Kd.fb_ | apply Kd.rb_)); exact HO106.out, Qe⟩
def nc_.f (a0 : Int) : Option (Int) := if (wrap64 (a0 * 2)) ≥ 32 then (some (Go.bits .xor .i64 (wrap64 (a0 * 2)) 37)) else (some (wrap64 (a0 * 2)))
set_option maxHeartbeats 8000000 in
set_option maxRecDepth 100000 in
theorem nc_.calls (a0 : Int) (r : Int) (w : World) (h : nc_.f a0 = some r) :
  Calls Tryz.prog 114 #[.int .i64 a0] w fun e w' => e = .returned (.int .i64 r) ∧ ja_ w w' := by
 have H : (if (wrap64 (a0 * 2)) ≥ 32 then (some (Go.bits .xor .i64 (wrap64 (a0 * 2)) 37)) else (some (wrap64 (a0 * 2)))) = some r := h
 clear h
 by_cases c2 : (wrap64 (a0 * 2)) ≥ 32
 ·exact Xg
 ·exact Xh
end Go.Proofs.YtpkhgapifnjbeaaGreatDoor.C
end
section
namespace Go.Proofs.YtpkhgapifnjbeaaGreatDoor.C
open RowKit G Zw.PrintWords Zw.PrintLast Zw.PrintMore
attribute [local go_sem] id_ kd_ vd_ wd_ bd_ cd_ jd_ ld_
end Go.Proofs.YtpkhgapifnjbeaaGreatDoor.C
end
section
namespace Go.Proofs.YtpkhgapifnjbeaaGreatDoor.G
open RowKit Zw.PrintWords Zw.PrintLast Zw.PrintMore Rs
theorem pa1_ (c0 : Nat) (w : World) : Calls Tryz.prog 97 #[.slice none 0 c0] w fun e w' => e = .returned (.slice none 0 0) ∧ w = w' := by
 have qT : ∀ (w : World) (a : Option Addr) (n c n' c' : Nat), (binOp .eql 22 (.slice a n c) (.slice none n' c')).run Tryz.prog w = .ok (.bool a.isNone) w := fun w a n c n' c' => Lib.run_eql_slice_nil w _ _ a n c n' c' Tryz.underlying22
 go_enter Tryz.func97, Tryz.ntmps97
 go_wp2
 go_ret
 exact ⟨rfl, rfl⟩
def wh_.f (l : List Int) : Option (List Int) := if l.length < 17592186044416 then some l else none
open Go.Proofs.YtpkhgapifnjbeaaGreatDoor.C in
theorem wh_.calls (A0 : Option Addr) (c0 : Nat) (l0 : List Int) (r : List Int) (w : World) (hr0 : Kd.C (Kd.int .i64) w A0 l0.length l0) (hc0 : l0.length ≤ c0) (h : wh_.f l0 = some r) :
  Calls Tryz.prog 97 #[.slice A0 l0.length c0] w fun e w' => ∃ v0_ : Value, e = .returned (v0_) ∧ Kd.R (Kd.int .i64) 3 w' w.heap.size (fun _ => True) v0_ r ∧ Below w.heap.size w w' := by
 unfold wh_.f at h
 by_cases hl : l0.length < 17592186044416
 rotate_left
 ·rw [if_neg hl] at h
  cases h
 rw [if_pos hl] at h
 obtain rfl := Option.some.inj h
 cases A0 with
 | some a =>
  refine vf_.callsS a c0 l0 l0 w hr0 hc0 ?_
  unfold vf_.f
  simp [hl]
 | none =>
  have h0 : l0 = [] := by
   cases l0 with
   | nil => rfl
   | cons x xs =>
    obtain ⟨ad, he, _⟩ := Kd.sd_ hr0 0 Qa Qo
    cases he
  subst h0
  exact (pa1_ c0 w).mono fun e w' ⟨he, hw⟩ => ⟨_, he, Kd.yf_ _ _ _ _ _, hw ▸ Below.refl _ _⟩
end Go.Proofs.YtpkhgapifnjbeaaGreatDoor.G
end
section
namespace Go.Proofs.YtpkhgapifnjbeaaGreatDoor.G
open RowKit Zw.PrintWords
def fg_ (least x : Int) : Bool := decide (x < least) || decide (32 ≤ x)
theorem wordC (x least : Int) (B : Nat) (W : World) (hc : W.cell? ⟨B, 0, none⟩ = some (.int .i64 least)) :
  Calls Tryz.prog 78 #[.int .i64 x, .pointer (some ⟨B, 0, none⟩)] W fun e w' => e = .returned (.bool (fg_ least x)) ∧ W = w' := by
 by_cases h1 : x < least <;> by_cases h2 : 32 ≤ x
 all_goals
  go_enter Tryz.func78, Tryz.ntmps78
  go_wp2
  go_ret
  exact ⟨by simp [fg_, h1, h2], rfl⟩
theorem wordY (x least : Int) (B : Nat) (W : World) (hc : W.cell? ⟨B, 0, none⟩ = some (.int .i64 least)) (b : Bool) (hb : fg_ least x = b) :
  Calls Tryz.prog 78 #[.int .i64 x, .pointer (some ⟨B, 0, none⟩)] W fun e w' => e = .returned (.bool b) ∧ W = w' := hb ▸ wordC x least B W hc
theorem as_ (p : Int → Bool) (l : List Int) (k : Int) (h0 : 0 ≤ k) (h : k < l.length) : (l.take (k + 1).toNat).any p = ((l.take k.toNat).any p || p (rd l k)) := by
 have e : (k + 1).toNat = k.toNat + 1 := by omega
 have hk : k.toNat < l.length := by omega
 rw [e, List.take_succ_eq_append_getElem hk, List.any_append]
 simp [rd, hk]
theorem ao_ (p : Int → Bool) (l : List Int) (k : Int) (h0 : 0 ≤ k) (h : k < l.length) (hp : p (rd l k) = true) : l.any p = true := by
 have hk : k.toNat < l.length := by omega
 refine List.any_eq_true.2 ⟨l[k.toNat], List.getElem_mem _, ?_⟩
 simpa [rd, hk] using hp
theorem ha1_ (p : Int → Bool) (l : List Int) (k : Int) (hk : ¬ k < l.length) (hp : (l.take k.toNat).any p = false) : l.any p = false := by
 rwa [List.take_of_length_le Qa] at hp
set_option maxHeartbeats 1000000 in
theorem idxF (least : Int) (B : Nat) (w : World) (hc : w.cell? ⟨B, 0, none⟩ = some (.int .i64 least)) (A : Option Addr) (c : Nat) (l : List Int) (hr : Kd.C (Kd.int .i64) w A l.length l) (hl : l.length ≤ 9223372036854775807) :
  Calls Tryz.prog 111 #[.slice A l.length c, .func (.func 78) #[] #[.pointer (some ⟨B, 0, none⟩)]] w fun e w' => (∃ r : Int, e = .returned (.int .i64 r) ∧ decide (0 ≤ r) = l.any (fg_ least)) ∧ w = w' := by
 have HR := Lib.hid hr
 clear hr
 go_enter Tryz.func111, Tryz.ntmps111
 go_wp2
 go_loop [8] (fun v => ∃ k : Int, 0 ≤ k ∧ k ≤ l.length ∧ v = .int .i64 k ∧ Hid ((l.take k.toNat).any (fg_ least) = false)) (fun v => l.length - (intOf v).toNat)
 case atStart => exact ⟨0, Qa, Qa, rfl, Lib.hid Qo⟩
 case round =>
  obtain ⟨k, hk0, hk, rfl, HN⟩ := hrel
  by_cases hlt : k < l.length
  rotate_left
  ·have HE := Lib.hid (ha1_ (fg_ least) l k hlt HN.out)
   go_wp2
   go_ret
   exact ⟨⟨-1, rfl, by rw [HE.out]; rfl⟩, rfl⟩
  have hs := as_ (fg_ least) l k hk0 hlt
  have hh := ao_ (fg_ least) l k hk0 hlt
  have HS := Lib.hid hs
  have HH := Lib.hid hh
  clear hs hh
  obtain ⟨ad, e1, hx⟩ := Kd.sd_ HR.out k hk0 hlt
  subst e1
  cases hb : fg_ least (rd l k)
  ·have HB := Lib.hid hb
   clear hb
   go_wp2_with (first | (go_at_call 78; refine (wordY _ _ _ _ hc _ HB.out).mono ?_; rintro e w' ⟨rfl, rfl⟩))
   go_round
   case rel => exact ⟨k + 1, Qa, Qa, rfl, Lib.hid (by rw [HS.out, HN.out, HB.out]; rfl)⟩
   case measure => simp [intOf]; omega
  have HB := Lib.hid hb
  clear hb
  go_wp2_with (first | (go_at_call 78; refine (wordY _ _ _ _ hc _ HB.out).mono ?_; rintro e w' ⟨rfl, rfl⟩))
  go_ret
  exact ⟨⟨k, rfl, by rw [HH.out HB.out]; simp [hk0]⟩, rfl⟩
set_option maxHeartbeats 1000000 in
theorem conF (least : Int) (B : Nat) (w : World) (hc : w.cell? ⟨B, 0, none⟩ = some (.int .i64 least)) (A : Option Addr) (c : Nat) (l : List Int) (hr : Kd.C (Kd.int .i64) w A l.length l) (hl : l.length ≤ 9223372036854775807) :
  Calls Tryz.prog 77 #[.slice A l.length c, .func (.func 78) #[] #[.pointer (some ⟨B, 0, none⟩)]] w fun e w' => e = .returned (.bool (l.any (fg_ least))) ∧ w = w' := by
 have HR := Lib.hid hr
 clear hr
 go_enter Tryz.func77, Tryz.ntmps77
 go_wp2_with (first | (go_at_call 111; refine (idxF _ _ _ hc A c l HR.out hl).mono ?_; rintro e w' ⟨⟨r, rfl, hr⟩, rfl⟩; have H9 := Lib.hid hr; clear hr))
 go_ret
 exact ⟨congrArg (fun b => Ending.returned (.bool b)) (by rw [← H9.out]), rfl⟩
def yg_.f (l0 : List Int) (a1 : Int) : Option Bool := some (decide (7 ≤ l0.length ∧ l0.length ≤ 15) && !(l0.any (fg_ a1)))
set_option maxHeartbeats 1000000 in
theorem yg_.calls (A0 : Option Addr) (c0 : Nat) (l0 : List Int) (a1 : Int) (r : Bool) (w : World) (hr0 : Kd.C (Kd.int .i64) w A0 l0.length l0) (hc0 : l0.length ≤ c0) (h : yg_.f l0 a1 = some r) :
  Calls Tryz.prog 44 #[.slice A0 l0.length c0, .int .i64 a1] w fun e w' => e = .returned (.bool r) ∧ Below w.heap.size w w' := by
 obtain rfl := Option.some.inj h
 clear h
 have HR := Lib.hid hr0
 clear hr0 hc0
 by_cases h1 : 7 ≤ l0.length
 rotate_left
 ·have e1 : decide (7 ≤ l0.length ∧ l0.length ≤ 15) = false := decide_eq_false Qa
  have E1 := Lib.hid e1
  clear e1
  have b1 : decide (7 ≤ (l0.length : Int)) = false := by simp; omega
  go_enter Tryz.func44, Tryz.ntmps44
  go_wp2
  go_ret
  exact ⟨congrArg (fun b => Ending.returned (.bool b)) (by rw [E1.out]; rfl), (Below.refl _ _).alloc (Nat.le_refl _) _⟩
 by_cases h2 : l0.length ≤ 15
 ·have e1 : decide (7 ≤ l0.length ∧ l0.length ≤ 15) = true := decide_eq_true ⟨h1, h2⟩
  have E1 := Lib.hid e1
  clear e1
  have b1 : decide (7 ≤ (l0.length : Int)) = true := by simp; omega
  have b2 : decide ((l0.length : Int) ≤ 15) = true := by simp; omega
  go_enter Tryz.func44, Tryz.ntmps44
  go_wp2_with (first | (go_at_call 77; refine (conF a1 _ _ Qo A0 c0 l0 ?_ Qa).mono ?_; exact Kd.oe_ HR.out ((Below.refl _ _).alloc (Nat.le_refl _) _); rintro e w' ⟨rfl, rfl⟩))
  go_ret
  exact ⟨congrArg (fun b => Ending.returned (.bool b)) (by rw [E1.out]; rfl), (Below.refl _ _).alloc (Nat.le_refl _) _⟩
 have e1 : decide (7 ≤ l0.length ∧ l0.length ≤ 15) = false := decide_eq_false Qa
 have E1 := Lib.hid e1
 clear e1
 have b1 : decide (7 ≤ (l0.length : Int)) = true := by simp; omega
 have b2 : decide ((l0.length : Int) ≤ 15) = false := by simp; omega
 go_enter Tryz.func44, Tryz.ntmps44
 go_wp2
 go_ret
 exact ⟨congrArg (fun b => Ending.returned (.bool b)) (by rw [E1.out]; rfl), (Below.refl _ _).alloc (Nat.le_refl _) _⟩
end Go.Proofs.YtpkhgapifnjbeaaGreatDoor.G
end
section
namespace Go.Proofs.YtpkhgapifnjbeaaGreatDoor.Q
open RowKit G Zw.PrintWords Zw.PrintLast Zw.PrintMore
attribute [local go_sem] id_ kd_ vd_ wd_ bd_ cd_ jd_ ld_
def errW : Option Int → Value
 | none => .nilIface
 | some c => .iface 0 (.int .i64 c)
theorem ta_ : errW none = .nilIface := rfl
theorem ua_ (c : Int) : errW (some c) = .iface 0 (.int .i64 c) := rfl
end Go.Proofs.YtpkhgapifnjbeaaGreatDoor.Q
end
section
namespace Go.Proofs.YtpkhgapifnjbeaaGreatDoor.Q
open RowKit G Zw.PrintWords Zw.PrintLast Zw.PrintMore
attribute [local go_sem] id_ kd_ vd_ wd_ bd_ cd_ jd_ ld_
def dc_.f (a0 : Int) : Option (Bool) := if a0 ≥ 0 then (some (decide (a0 < 32))) else (some false)
set_option maxHeartbeats 8000000 in
set_option maxRecDepth 100000 in
theorem dc_.calls (a0 : Int) (r : Bool) (w : World) (h : dc_.f a0 = some r) :
  Calls Tryz.prog 84 #[.int .i64 a0] w fun e w' => e = .returned (.bool r) ∧ ja_ w w' := by
 have H : (if a0 ≥ 0 then (some (decide (a0 < 32))) else (some false)) = some r := h
 clear h
 by_cases c2 : a0 ≥ 0
 ·exact X8
 ·exact X9
def nb_.l0 : Nat → List Int → Int → Int → Int → Option (Int)
 | 0, _, _, _, _ => none
 | k + 1, x0, x5, x6, x7 => if x7 < (x0.length : Int) then ((ss_.f x5 x6).bind fun t102 => (if 0 ≤ x7 then (nb_.l0 k x0 (Go.bits .xor .i64 t102 (rd x0 x7)) x6 (wrap64 (x7 + 1))) else (none))) else (some x5)
def nb_.f (k : Nat) (l0 : List Int) (a1 : Int) : Option (Int) := (cj_.f a1).bind fun t101 => (nb_.l0 k l0 0 t101 0)
theorem nb_.yc_ : ∀ k, (∀ y0 y1 y2 y3, LeO (nb_.l0 k y0 y1 y2 y3) (nb_.l0 (k + 1) y0 y1 y2 y3))
 | 0 => fun _ _ _ _ r h => by simp [nb_.l0] at h
 | k + 1 => by
  have ih0 := nb_.yc_ k
  intro y0 y1 y2 y3
  unfold nb_.l0
  repeat' first
  | (with_reducible exact ih0 _ _ _ _)
  | (with_reducible first | exact LeO.refl _ | exact LeO.none _ | refine LeO.ite ?_ ?_ | refine LeO.bind ?_ (fun _ => ?_))
  | exact ih0 _ _ _ _
  | exact LeO.none _
  | refine LeO.ite ?_ ?_
  | refine LeO.bind ?_ (fun _ => ?_)
theorem nb_.mono : ∀ a0 a1 k, LeO (nb_.f k a0 a1) (nb_.f (k + 1) a0 a1) := by
 intro a0 a1 k
 have ih0 := nb_.yc_ k
 unfold nb_.f
 repeat' first
   | (with_reducible exact ih0 _ _ _ _)
   | (with_reducible first | exact LeO.refl _ | exact LeO.none _ | refine LeO.ite ?_ ?_ | refine LeO.bind ?_ (fun _ => ?_))
   | exact ih0 _ _ _ _
   | exact LeO.none _
   | refine LeO.ite ?_ ?_
   | refine LeO.bind ?_ (fun _ => ?_)
set_option maxHeartbeats 8000000 in
set_option maxRecDepth 100000 in
theorem nb_.calls (k : Nat) (A0 : Option Addr) (c0 : Nat) (l0 : List Int) (a1 : Int) (r : Int) (w : World) (hr0 : Kd.C (Kd.int .i64) w A0 l0.length l0) (hc0 : l0.length ≤ c0) (h : nb_.f k l0 a1 = some r) :
  Calls Tryz.prog 118 #[.slice A0 l0.length c0, .int .i64 a1] w fun e w' => e = .returned (.int .i64 r) ∧ Below w.heap.size w w' := by
 have HR0 := ba_.mk hr0
 have HC0 := ba_.mk hc0
 clear hr0 hc0
 have HB := ba_.mk (Below.refl w.heap.size w)
 have H : ((cj_.f a1).bind fun t101 => (nb_.l0 k l0 0 t101 0)) = some r := h
 clear h
 obtain ⟨t101, A3, H⟩ := Qk H
 try dsimp only at H
 have H' := ba_.mk H
 clear H
 go_enter Tryz.func118, Tryz.ntmps118
 go_wp2_with (first | (go_at_call 117; (with_reducible refine (cj_.calls a1 t101 _ A3.out).mono ?_); rintro e w4 ⟨rfl, hb⟩; have n0_ := ba_.mk (wa_ Qe hb); clear HB; have HB := n0_; clear n0_; (try clear hb); (try clear hb2); (try clear hk); (try clear hi)))
 repeat (go_quiet (first | (go_at_call 117; (with_reducible refine (cj_.calls a1 t101 _ A3.out).mono ?_); rintro e w4 ⟨rfl, hb⟩; have n0_ := ba_.mk (wa_ Qe hb); clear HB; have HB := n0_; clear n0_; (try clear hb); (try clear hb2); (try clear hk); (try clear hi))); try go_wp2_with (first | (go_at_call 117; (with_reducible refine (cj_.calls a1 t101 _ A3.out).mono ?_); rintro e w4 ⟨rfl, hb⟩; have n0_ := ba_.mk (wa_ Qe hb); clear HB; have HB := n0_; clear n0_; (try clear hb); (try clear hb2); (try clear hk); (try clear hi))))
 go_loopg [5, 7] k (fun kq v5 v7 w' => ∃ (x5_1 : Int) (x7_1 : Int), v5 = .int .i64 x5_1 ∧ v7 = .int .i64 x7_1 ∧ ba_ (nb_.l0 kq l0 x5_1 t101 x7_1 = some r) ∧ ba_ (kq ≤ k) ∧ ba_ (Below w.heap.size w w'))
 case atStart => exact ⟨(0), (0), Qi, Qi, H', ⟨Nat.le_refl _⟩, ⟨Qe⟩⟩
 case round =>
  clear H'
  try clear c1
  try clear p2
  obtain ⟨x5_1, x7_1, rfl, rfl, HA, HK1, HB⟩ := hrel
  cases gk with
  | zero => exact absurd HA.out (by simp [nb_.l0])
  | succ k1 =>
   have H := HA.out
   clear HA
   simp only [nb_.l0] at H
   by_cases c5 : x7_1 < (l0.length : Int)
   rotate_left
   ·rw [if_neg c5] at H
    have c5b0 := decide_eq_false c5
    clear c5
    obtain rfl := Option.some.inj H
    go_wp2
    repeat (go_quiet (fail); try go_wp2)
    go_ret
    exact ⟨Qq, Qe⟩
   rw [if_pos c5] at H
   have c5b0 := decide_eq_true c5
   clear c5
   obtain ⟨t102, A6, H⟩ := Qk H
   try dsimp only at H
   obtain ⟨c7, H⟩ := Qn H
   have c7b0 := decide_eq_true c7
   clear c7
   have H' := ba_.mk H
   clear H
   go_wp2_with (first | (go_at_call 120; (with_reducible refine (ss_.calls x5_1 t101 t102 _ A6.out).mono ?_); rintro e w' ⟨rfl, ⟨nd, rfl⟩⟩; (try first | exact ⟨rfl, _, World.drewN_drewN _ _ _⟩ | exact ⟨rfl, _, Eq.trans (World.drewN_drewN _ _ _) (congrArg (World.drewN _) (Nat.add_assoc _ _ _))⟩); have p103 : 0 ≤ (x7_1 : Int) := of_decide_eq_true Qg; have q103 : x7_1 < (l0.length : Int) := of_decide_eq_true Qg; obtain ⟨ad103, e103, hx103_0⟩ := Kd.sd_ HR0.out x7_1 p103 q103; cases e103; replace hx103_0 := (HB.out.cell (World.block_lt_of_cell? w _ hx103_0)).trans hx103_0; replace p103 := eq_true p103; replace q103 := eq_true q103))
   repeat (go_quiet (first | (go_at_call 120; (with_reducible refine (ss_.calls x5_1 t101 t102 _ A6.out).mono ?_); rintro e w' ⟨rfl, ⟨nd, rfl⟩⟩; (try first | exact ⟨rfl, _, World.drewN_drewN _ _ _⟩ | exact ⟨rfl, _, Eq.trans (World.drewN_drewN _ _ _) (congrArg (World.drewN _) (Nat.add_assoc _ _ _))⟩); have p103 : 0 ≤ (x7_1 : Int) := of_decide_eq_true Qg; have q103 : x7_1 < (l0.length : Int) := of_decide_eq_true Qg; obtain ⟨ad103, e103, hx103_0⟩ := Kd.sd_ HR0.out x7_1 p103 q103; cases e103; replace hx103_0 := (HB.out.cell (World.block_lt_of_cell? w _ hx103_0)).trans hx103_0; replace p103 := eq_true p103; replace q103 := eq_true q103)); try go_wp2_with (first | (go_at_call 120; (with_reducible refine (ss_.calls x5_1 t101 t102 _ A6.out).mono ?_); rintro e w' ⟨rfl, ⟨nd, rfl⟩⟩; (try first | exact ⟨rfl, _, World.drewN_drewN _ _ _⟩ | exact ⟨rfl, _, Eq.trans (World.drewN_drewN _ _ _) (congrArg (World.drewN _) (Nat.add_assoc _ _ _))⟩); have p103 : 0 ≤ (x7_1 : Int) := of_decide_eq_true Qg; have q103 : x7_1 < (l0.length : Int) := of_decide_eq_true Qg; obtain ⟨ad103, e103, hx103_0⟩ := Kd.sd_ HR0.out x7_1 p103 q103; cases e103; replace hx103_0 := (HB.out.cell (World.block_lt_of_cell? w _ hx103_0)).trans hx103_0; replace p103 := eq_true p103; replace q103 := eq_true q103)))
   go_roundg k1
   case measure => have := HK1.out; omega
   case rel => exact ⟨(Go.bits .xor .i64 t102 (rd l0 x7_1)), (wrap64 (x7_1 + 1)), Qi, Qi, H', ⟨Qw⟩, ⟨Qe⟩⟩
mutual
def fa_.j0 : Nat → List Int → Int → Bool → Option (Bool)
 | 0, _, _, _ => none
 | k + 1, x0, x1, x13 => if x13 = true then (some false) else (fa_.l0 k x0 x1 0)
def fa_.l0 : Nat → List Int → Int → Int → Option (Bool)
 | 0, _, _, _ => none
 | k + 1, x0, x1, x5 => if x5 < (x0.length : Int) then (if 0 ≤ x5 then (if (rd x0 x5) < x1 then (some false) else (if (rd x0 x5) > 31 then (some false) else (fa_.l0 k x0 x1 (wrap64 (x5 + 1))))) else (none)) else (some true)
end
def fa_.f (k : Nat) (l0 : List Int) (a1 : Int) : Option (Bool) := if (l0.length : Int) < 7 then (fa_.j0 k l0 a1 true) else (fa_.j0 k l0 a1 (decide ((l0.length : Int) > 15)))
theorem fa_.yc_ : ∀ k, (∀ y0 y1 y2, LeO (fa_.j0 k y0 y1 y2) (fa_.j0 (k + 1) y0 y1 y2)) ∧ (∀ y0 y1 y2, LeO (fa_.l0 k y0 y1 y2) (fa_.l0 (k + 1) y0 y1 y2))
 | 0 => ⟨fun _ _ _ r h => by simp [fa_.j0] at h, fun _ _ _ r h => by simp [fa_.l0] at h⟩
 | k + 1 => by
  obtain ⟨ih0, ih1⟩ := fa_.yc_ k
  refine ⟨?_, ?_⟩
  ·intro y0 y1 y2
   unfold fa_.j0
   repeat' first
   | (with_reducible exact ih0 _ _ _)
   | (with_reducible exact ih1 _ _ _)
   | (with_reducible first | exact LeO.refl _ | exact LeO.none _ | refine LeO.ite ?_ ?_ | refine LeO.bind ?_ (fun _ => ?_))
   | exact ih0 _ _ _
   | exact ih1 _ _ _
   | exact LeO.none _
   | refine LeO.ite ?_ ?_
   | refine LeO.bind ?_ (fun _ => ?_)
  intro y0 y1 y2
  unfold fa_.l0
  repeat' first
  | (with_reducible exact ih0 _ _ _)
  | (with_reducible exact ih1 _ _ _)
  | (with_reducible first | exact LeO.refl _ | exact LeO.none _ | refine LeO.ite ?_ ?_ | refine LeO.bind ?_ (fun _ => ?_))
  | exact ih0 _ _ _
  | exact ih1 _ _ _
  | exact LeO.none _
  | refine LeO.ite ?_ ?_
  | refine LeO.bind ?_ (fun _ => ?_)
theorem fa_.mono : ∀ a0 a1 k, LeO (fa_.f k a0 a1) (fa_.f (k + 1) a0 a1) := by
 intro a0 a1 k
 obtain ⟨ih0, ih1⟩ := fa_.yc_ k
 unfold fa_.f
 repeat' first
   | (with_reducible exact ih0 _ _ _)
   | (with_reducible exact ih1 _ _ _)
   | (with_reducible first | exact LeO.refl _ | exact LeO.none _ | refine LeO.ite ?_ ?_ | refine LeO.bind ?_ (fun _ => ?_))
   | exact ih0 _ _ _
   | exact ih1 _ _ _
   | exact LeO.none _
   | refine LeO.ite ?_ ?_
   | refine LeO.bind ?_ (fun _ => ?_)
set_option maxHeartbeats 8000000 in
set_option maxRecDepth 100000 in
theorem fa_.calls (k : Nat) (A0 : Option Addr) (c0 : Nat) (l0 : List Int) (a1 : Int) (r : Bool) (w : World) (hr0 : Kd.C (Kd.int .i64) w A0 l0.length l0) (hc0 : l0.length ≤ c0) (h : fa_.f k l0 a1 = some r) :
  Calls Tryz.prog 87 #[.slice A0 l0.length c0, .int .i64 a1] w fun e w' => e = .returned (.bool r) ∧ ja_ w w' := by
 have HR0 := ba_.mk hr0
 have HC0 := ba_.mk hc0
 clear hr0 hc0
 have H : (if (l0.length : Int) < 7 then (fa_.j0 k l0 a1 true) else (fa_.j0 k l0 a1 (decide ((l0.length : Int) > 15)))) = some r := h
 clear h
 have HC3 := ba_.mk H
 clear H
 go_enter Tryz.func87, Tryz.ntmps87
 go_upto_region 1 with (fail)
 go_cut [13] (fun v13 wc => ∃ (kq : Nat) (x13_2 : Bool), v13 = .bool x13_2 ∧ ba_ (fa_.j0 kq l0 a1 x13_2 = some r) ∧ ba_ (kq ≤ k) ∧ ja_ w wc)
 case first =>
  have H := HC3.out
  clear HC3
  by_cases c4 : (l0.length : Int) < 7
  ·rw [if_pos c4] at H
   have c4b0 := decide_eq_true c4
   have c4b1 : decide (l0.length < 7) = true := decide_eq_true Qa
   clear c4
   (first | rw [c4b0] | (simp only [yb_, ac_]; rw [c4b0]) | skip)
   have H' := ba_.mk H
   clear H
   go_wp2
   go_meet
   case rel => exact Xt
  rw [if_neg c4] at H
  have c4b0 := decide_eq_false c4
  have c4b1 : decide (l0.length < 7) = false := decide_eq_false Qa
  clear c4
  (first | rw [c4b0] | (simp only [yb_, ac_]; rw [c4b0]) | skip)
  have H' := ba_.mk H
  clear H
  go_wp2
  go_meet
  case rel => exact ⟨_, (decide ((l0.length : Int) > 15)), Qi, H', ⟨Xf⟩, Qp⟩
 case rest =>
  clear HC3
  try clear p2
  try clear c4
  try clear c4b0
  try clear c4b1
  obtain ⟨kq, x13_2, rfl, HA, HJ2, ⟨mc2, rfl⟩⟩ := hcut
  cases kq with
  | zero => exact absurd HA.out (by simp [fa_.j0])
  | succ kj2 =>
   have H := HA.out
   clear HA
   simp only [fa_.j0] at H
   by_cases c5 : x13_2 = true
   ·subst c5
    have H1 : (some false) = some r := by rw [if_pos rfl] at H; exact H
    clear H
    have H := H1
    clear H1
    obtain rfl := Option.some.inj H
    go_wp2
    go_ret
    exact ⟨Qi, Qp⟩
   replace c5 := Bool.eq_false_iff.mpr c5
   subst c5
   have H1 : (fa_.l0 kj2 l0 a1 0) = some r := by rw [if_neg (show ¬ (false = true) by decide)] at H; exact H
   clear H
   have H := H1
   clear H1
   have H' := ba_.mk H
   clear H
   go_wp2
   go_loopg [5] kj2 (fun kq v5 w' => ∃ (x5_2 : Int), v5 = .int .i64 x5_2 ∧ ba_ (fa_.l0 kq l0 a1 x5_2 = some r) ∧ ba_ (kq ≤ kj2) ∧ ja_ w w')
   case atStart => exact Yb
   case round =>
    clear H'
    try clear c2
    try clear p2
    try clear c4
    try clear c4b0
    try clear c4b1
    try clear c5
    try clear p2
    obtain ⟨x5_2, rfl, HA, HK2, ⟨m2, rfl⟩⟩ := hrel
    cases gk with
    | zero => exact absurd HA.out (by simp [fa_.l0])
    | succ k2 =>
     have H := HA.out
     clear HA
     simp only [fa_.l0] at H
     by_cases c6 : x5_2 < (l0.length : Int)
     rotate_left
     ·rw [if_neg c6] at H
      have c6b0 := decide_eq_false c6
      clear c6
      obtain rfl := Option.some.inj H
      go_wp2
      go_ret
      exact ⟨Qi, Qp⟩
     rw [if_pos c6] at H
     have c6b0 := decide_eq_true c6
     clear c6
     obtain ⟨c7, H⟩ := Qn H
     have c7b0 := decide_eq_true c7
     clear c7
     by_cases c8 : (rd l0 x5_2) < a1
     ·rw [if_pos c8] at H
      have c8b0 := decide_eq_true c8
      clear c8
      obtain rfl := Option.some.inj H
      have p104 : 0 ≤ (x5_2 : Int) := of_decide_eq_true Qg
      have q104 : x5_2 < (l0.length : Int) := of_decide_eq_true Qg
      obtain ⟨ad104, e104, hx104_0⟩ := Kd.sd_ HR0.out x5_2 p104 q104
      cases e104
      replace p104 := eq_true p104
      replace q104 := eq_true q104
      go_wp2
      go_ret
      exact ⟨Qi, Qp⟩
     rw [if_neg c8] at H
     have c8b0 := decide_eq_false c8
     clear c8
     by_cases c9 : (rd l0 x5_2) > 31
     ·rw [if_pos c9] at H
      have c9b0 : decide (31 < (rd l0 x5_2)) = true := decide_eq_true c9
      clear c9
      obtain rfl := Option.some.inj H
      have p104 : 0 ≤ (x5_2 : Int) := of_decide_eq_true Qg
      have q104 : x5_2 < (l0.length : Int) := of_decide_eq_true Qg
      obtain ⟨ad104, e104, hx104_0⟩ := Kd.sd_ HR0.out x5_2 p104 q104
      cases e104
      replace p104 := eq_true p104
      replace q104 := eq_true q104
      have p105 : 0 ≤ (x5_2 : Int) := of_decide_eq_true Qg
      have q105 : x5_2 < (l0.length : Int) := of_decide_eq_true Qg
      obtain ⟨ad105, e105, hx105_0⟩ := Kd.sd_ HR0.out x5_2 p105 q105
      obtain rfl : ad104 = ad105 := (by injection e105)
      replace p105 := eq_true p105
      replace q105 := eq_true q105
      go_wp2
      go_ret
      exact ⟨Qi, Qp⟩
     rw [if_neg c9] at H
     have c9b0 : decide (31 < (rd l0 x5_2)) = false := decide_eq_false c9
     clear c9
     have H' := ba_.mk H
     clear H
     have p104 : 0 ≤ (x5_2 : Int) := of_decide_eq_true Qg
     have q104 : x5_2 < (l0.length : Int) := of_decide_eq_true Qg
     obtain ⟨ad104, e104, hx104_0⟩ := Kd.sd_ HR0.out x5_2 p104 q104
     cases e104
     replace p104 := eq_true p104
     replace q104 := eq_true q104
     have p105 : 0 ≤ (x5_2 : Int) := of_decide_eq_true Qg
     have q105 : x5_2 < (l0.length : Int) := of_decide_eq_true Qg
     obtain ⟨ad105, e105, hx105_0⟩ := Kd.sd_ HR0.out x5_2 p105 q105
     obtain rfl : ad104 = ad105 := (by injection e105)
     replace p105 := eq_true p105
     replace q105 := eq_true q105
     go_wp2
     go_roundg k2
     case measure => exact X6
     case rel => exact ⟨(wrap64 (x5_2 + 1)), Qi, H', ⟨X7⟩, Qp⟩
def xb_.l0 : Nat → List Int → Int → Option (Bool)
 | 0, _, _ => none
 | k + 1, x0, x3 => if x3 ≤ 6 then ((nb_.f k x0 x3).bind fun t107 => (if t107 = 0 then (xb_.l0 k x0 (wrap64 (x3 + 1))) else (some false))) else (some true)
def xb_.f (k : Nat) (l0 : List Int) : Option (Bool) := (fa_.f k l0 0).bind fun t106 => (if t106 = true then (xb_.l0 k l0 1) else (some false))
theorem xb_.yc_ : ∀ k, (∀ y0 y1, LeO (xb_.l0 k y0 y1) (xb_.l0 (k + 1) y0 y1))
 | 0 => fun _ _ r h => by simp [xb_.l0] at h
 | k + 1 => by
  have ih0 := xb_.yc_ k
  intro y0 y1
  unfold xb_.l0
  repeat' first
  | (with_reducible exact ih0 _ _)
  | (with_reducible exact nb_.mono _ _ _)
  | (with_reducible exact fa_.mono _ _ _)
  | (with_reducible first | exact LeO.refl _ | exact LeO.none _ | refine LeO.ite ?_ ?_ | refine LeO.bind ?_ (fun _ => ?_))
  | exact ih0 _ _
  | exact nb_.mono _ _ _
  | exact fa_.mono _ _ _
  | exact LeO.none _
  | refine LeO.ite ?_ ?_
  | refine LeO.bind ?_ (fun _ => ?_)
theorem xb_.mono : ∀ a0 k, LeO (xb_.f k a0) (xb_.f (k + 1) a0) := by
 intro a0 k
 have ih0 := xb_.yc_ k
 unfold xb_.f
 repeat' first
   | (with_reducible exact ih0 _ _)
   | (with_reducible exact nb_.mono _ _ _)
   | (with_reducible exact fa_.mono _ _ _)
   | (with_reducible first | exact LeO.refl _ | exact LeO.none _ | refine LeO.ite ?_ ?_ | refine LeO.bind ?_ (fun _ => ?_))
   | exact ih0 _ _
   | exact nb_.mono _ _ _
   | exact fa_.mono _ _ _
   | exact LeO.none _
   | refine LeO.ite ?_ ?_
   | refine LeO.bind ?_ (fun _ => ?_)
set_option maxHeartbeats 8000000 in
set_option maxRecDepth 100000 in
theorem xb_.calls (k : Nat) (A0 : Option Addr) (c0 : Nat) (l0 : List Int) (r : Bool) (w : World) (hr0 : Kd.C (Kd.int .i64) w A0 l0.length l0) (hc0 : l0.length ≤ c0) (h : xb_.f k l0 = some r) :
  Calls Tryz.prog 121 #[.slice A0 l0.length c0] w fun e w' => e = .returned (.bool r) ∧ Below w.heap.size w w' := by
 have HR0 := ba_.mk hr0
 have HC0 := ba_.mk hc0
 clear hr0 hc0
 have HB := ba_.mk (Below.refl w.heap.size w)
 have H : ((fa_.f k l0 0).bind fun t106 => (if t106 = true then (xb_.l0 k l0 1) else (some false))) = some r := h
 clear h
 obtain ⟨t106, A2, H⟩ := Qk H
 try dsimp only at H
 by_cases c3 : t106 = true
 rotate_left
 ·replace c3 := Bool.eq_false_iff.mpr c3
  subst c3
  have H1 : (some false) = some r := by rw [if_neg (show ¬ (false = true) by decide)] at H; exact H
  clear H
  have H := H1
  clear H1
  obtain rfl := Option.some.inj H
  go_enter Tryz.func121, Tryz.ntmps121
  go_wp2_with (first | ((with_reducible refine ia_ (f := 87) rfl ?_); refine gc_ (some 5) rfl rfl Tryz.func87 Qb rfl #[.slice A0 l0.length c0, .int .i64 0] rfl Qj ?_; (with_reducible refine (fa_.calls k _ _ l0 0 false _ ?side1 ?side2 A2.out).mono ?_); (case side1 => exact Xa); (case side2 => exact HC0.out); rintro e w' ⟨rfl, ⟨nd, rfl⟩⟩; refine ⟨_, rfl, ?_⟩))
  go_ret
  exact ⟨Qq, Qe⟩
 subst c3
 have H1 : (xb_.l0 k l0 1) = some r := by rw [if_pos rfl] at H; exact H
 clear H
 have H := H1
 clear H1
 have H' := ba_.mk H
 clear H
 go_enter Tryz.func121, Tryz.ntmps121
 go_wp2_with (first | ((with_reducible refine ia_ (f := 87) rfl ?_); refine gc_ (some 5) rfl rfl Tryz.func87 Qb rfl #[.slice A0 l0.length c0, .int .i64 0] rfl Qj ?_; (with_reducible refine (fa_.calls k _ _ l0 0 true _ ?side1 ?side2 A2.out).mono ?_); (case side1 => exact Xa); (case side2 => exact HC0.out); rintro e w' ⟨rfl, ⟨nd, rfl⟩⟩; refine ⟨_, rfl, ?_⟩))
 go_loopg [3] k (fun kq v3 w' => ∃ (x3_1 : Int), v3 = .int .i64 x3_1 ∧ ba_ (xb_.l0 kq l0 x3_1 = some r) ∧ ba_ (kq ≤ k) ∧ ba_ (Below w.heap.size w w'))
 case atStart => exact ⟨(1), Qi, H', ⟨Nat.le_refl _⟩, ⟨Qe⟩⟩
 case round =>
  clear H'
  try clear c1
  try clear p2
  try clear c3
  obtain ⟨x3_1, rfl, HA, HK1, HB⟩ := hrel
  cases gk with
  | zero => exact absurd HA.out (by simp [xb_.l0])
  | succ k1 =>
   have H := HA.out
   clear HA
   simp only [xb_.l0] at H
   by_cases c4 : x3_1 ≤ 6
   rotate_left
   ·rw [if_neg c4] at H
    have c4b0 := decide_eq_false c4
    clear c4
    obtain rfl := Option.some.inj H
    go_wp2
    go_ret
    exact ⟨Qq, Qe⟩
   rw [if_pos c4] at H
   have c4b0 := decide_eq_true c4
   clear c4
   obtain ⟨t107, A5, H⟩ := Qk H
   try dsimp only at H
   by_cases c6 : t107 = 0
   rotate_left
   ·rw [if_neg c6] at H
    have c6b0 : (t107 == 0) = false := beq_eq_false_iff_ne.mpr c6
    have c6b1 : (t107 != 0) = true := bne_iff_ne.mpr c6
    obtain rfl := Option.some.inj H
    go_wp2_with (first | ((with_reducible refine ia_ (f := 118) rfl ?_); refine gc_ (some 13) rfl rfl Tryz.func118 Qb rfl #[.slice A0 l0.length c0, .int .i64 x3_1] rfl Qj ?_; (with_reducible refine (nb_.calls k1 _ _ l0 x3_1 t107 _ ?side1 ?side2 A5.out).mono ?_); (case side1 => exact Q9); (case side2 => exact HC0.out); rintro e w8 ⟨rfl, hb⟩; refine ⟨_, rfl, ?_⟩; have n0_ := ba_.mk (wa_ Qe hb); clear HB; have HB := n0_; clear n0_; (try clear hb); (try clear hb2); (try clear hk); (try clear hi)))
    go_ret
    exact ⟨Qq, Qe⟩
   rw [if_pos c6] at H
   have c6b0 : (t107 == 0) = true := beq_iff_eq.mpr c6
   have c6b1 : (t107 != 0) = false := bne_eq_false_iff_eq.mpr c6
   clear c6
   have H' := ba_.mk H
   clear H
   go_wp2_with (first | ((with_reducible refine ia_ (f := 118) rfl ?_); refine gc_ (some 13) rfl rfl Tryz.func118 Qb rfl #[.slice A0 l0.length c0, .int .i64 x3_1] rfl Qj ?_; (with_reducible refine (nb_.calls k1 _ _ l0 x3_1 t107 _ ?side1 ?side2 A5.out).mono ?_); (case side1 => exact Q9); (case side2 => exact HC0.out); rintro e w7 ⟨rfl, hb⟩; refine ⟨_, rfl, ?_⟩; have n0_ := ba_.mk (wa_ Qe hb); clear HB; have HB := n0_; clear n0_; (try clear hb); (try clear hb2); (try clear hk); (try clear hi)))
   go_roundg k1
   case measure => have := HK1.out; omega
   case rel => exact ⟨(wrap64 (x3_1 + 1)), Qi, H', ⟨Qw⟩, ⟨Qe⟩⟩
def nc_.f (a0 : Int) : Option (Int) := if (wrap64 (a0 * 2)) ≥ 32 then (some (Go.bits .xor .i64 (wrap64 (a0 * 2)) 37)) else (some (wrap64 (a0 * 2)))
set_option maxHeartbeats 8000000 in
set_option maxRecDepth 100000 in
theorem nc_.calls (a0 : Int) (r : Int) (w : World) (h : nc_.f a0 = some r) :
  Calls Tryz.prog 114 #[.int .i64 a0] w fun e w' => e = .returned (.int .i64 r) ∧ ja_ w w' := by
 have H : (if (wrap64 (a0 * 2)) ≥ 32 then (some (Go.bits .xor .i64 (wrap64 (a0 * 2)) 37)) else (some (wrap64 (a0 * 2)))) = some r := h
 clear h
 by_cases c2 : (wrap64 (a0 * 2)) ≥ 32
 ·exact Xg
 ·exact Xh
end Go.Proofs.YtpkhgapifnjbeaaGreatDoor.Q
end
section
namespace Go.Proofs.YtpkhgapifnjbeaaGreatDoor.Q
open RowKit G Zw.PrintWords Zw.PrintLast Zw.PrintMore
attribute [local go_sem] id_ kd_ vd_ wd_ bd_ cd_ jd_ ld_
end Go.Proofs.YtpkhgapifnjbeaaGreatDoor.Q
end
section
namespace Go.Proofs.YtpkhgapifnjbeaaGreatDoor.G
open RowKit Zw.PrintWords Zw.PrintLast Zw.PrintMore Rs Q
def isWord (l : List Int) (low : Int) : Bool := decide (7 ≤ l.length ∧ l.length ≤ 15) && !(l.any (fg_ low))
theorem ye_ (l : List Int) (i : Nat) : rd l (i : Int) = l.getD i 0 := by simp [rd]
theorem sym_l0 (l : List Int) (low : Int) (hl : l.length ≤ 15) : ∀ (d i k : Nat), i + d = l.length → d < k → (l.take i).any (fg_ low) = false → fa_.l0 k l low (i : Int) = some (!(l.any (fg_ low))) := by
 intro d
 induction d with
 | zero =>
  intro i k hi hk hz
  obtain ⟨k, rfl⟩ : ∃ m, k = m + 1 := ⟨k - 1, Qa⟩
  simp only [fa_.l0]
  rw [if_neg Qa]
  rw [List.take_of_length_le Qa] at hz
  rw [hz]; rfl
 | succ d ih =>
  intro i k hi hk hz
  obtain ⟨k, rfl⟩ : ∃ m, k = m + 1 := ⟨k - 1, Qa⟩
  simp only [fa_.l0]
  rw [if_pos Qa, if_pos Qa]
  have hs := as_ (fg_ low) l (i : Int) Qa Qa
  rw [show ((i : Int) + 1).toNat = i + 1 from by omega, show (i : Int).toNat = i from by omega, hz, Bool.false_or] at hs
  by_cases h1 : rd l (i : Int) < low
  ·rw [if_pos h1, ao_ (fg_ low) l (i : Int) Qa Qa (by simp [fg_, h1])]; rfl
  rw [if_neg h1]
  by_cases h2 : rd l (i : Int) > 31
  ·rw [if_pos h2, ao_ (fg_ low) l (i : Int) Qa Qa (by simp [fg_]; omega)]; rfl
  rw [if_neg h2, show wrap64 ((i : Int) + 1) = ((i + 1 : Nat) : Int) from by unfold wrap64; omega]
  refine ih (i + 1) k Qa Qa ?_
  rw [hs]
  simp [fg_]
  omega
theorem zu_ (l : List Int) (low : Int) (k : Nat) (hk : 18 ≤ k) : fa_.f k l low = some (isWord l low) := by
 obtain ⟨k, rfl⟩ : ∃ m, k = m + 1 := ⟨k - 1, Qa⟩
 unfold fa_.f isWord
 by_cases h1 : (l.length : Int) < 7
 ·rw [if_pos h1]
  simp only [fa_.j0]
  rw [if_pos trivial, decide_eq_false Qa]; rfl
 rw [if_neg h1]
 by_cases h2 : (l.length : Int) > 15
 ·rw [decide_eq_true h2]
  simp only [fa_.j0]
  rw [if_pos trivial, decide_eq_false Qa]; rfl
 rw [decide_eq_false h2]
 simp only [fa_.j0]
 rw [if_neg Qh, decide_eq_true Qa, Bool.true_and]
 exact sym_l0 l low Qa l.length 0 k Qa Qa Qo
def hsum (l : List Int) (x : GF) : Nat → GF
 | 0 => 0
 | m + 1 => hsum l x m * x + vG (l.getD m 0)
theorem fh1_ (l : List Int) (x : GF) (m : Nat) : hsum l x m = gsum m (fun i => vG (l.getD i 0) * GF.pw x (m - 1 - i)) := by
 induction m with
 | zero => rfl
 | succ m ih =>
  simp only [hsum, gsum]
  rw [ih, GF.mul_comm, ← gh_, show m + 1 - 1 - m = 0 from by omega]
  rw [show GF.pw x 0 = 1 from rfl, GF.mul_one]
  congr 1
  refine fd_ fun i hi => ?_
  rw [show m + 1 - 1 - i = (m - 1 - i) + 1 from by omega]
  show x * (vG (l.getD i 0) * GF.pw x (m - 1 - i)) = vG (l.getD i 0) * (GF.pw x (m - 1 - i) * x)
  ac_rfl
theorem jb1_ (l : List Int) (j : Nat) : hsum l (GF.ex j) l.length = psum l j l.length := by
 rw [fh1_]
 refine fd_ fun i hi => ?_
 rw [GF.db1_]
def uj_ (l : List Int) : Bool := l.all isEl
theorem bl_ {l : List Int} (h : uj_ l = true) (i : Nat) (hi : i < l.length) : isEl (l.getD i 0) = true := by
 have := List.all_eq_true.1 h (l.getD i 0) (by rw [List.getD_eq_getElem?_getD, List.getElem?_eq_getElem hi]; exact List.getElem_mem _)
 exact this
theorem gi1_ (l : List Int) (j : Nat) (he : uj_ l = true) (hl : l.length ≤ 100) : ∀ (d i k : Nat), i + d = l.length → d < k → nb_.l0 k l (ofG (hsum l (GF.ex j) i)) (powI (j : Int)) (i : Int) = some (ofG (psum l j l.length)) := by
 intro d
 induction d with
 | zero =>
  intro i k hi hk
  obtain ⟨k, rfl⟩ : ∃ m, k = m + 1 := ⟨k - 1, Qa⟩
  simp only [nb_.l0]
  rw [if_neg Qa]
  obtain rfl : i = l.length := by omega
  rw [jb1_]
 | succ d ih =>
  intro i k hi hk
  obtain ⟨k, rfl⟩ : ∃ m, k = m + 1 := ⟨k - 1, Qa⟩
  simp only [nb_.l0]
  rw [if_pos Qa]
  simp only [ss_.f, Option.bind_some]
  rw [if_pos Qa]
  have hp : powI (j : Int) = ofG (GF.ex j) := by
   unfold powI
   rw [show ((j : Int) % 31).toNat = j % 31 from by omega, ← GF.ot_]
  have hv : rd l (i : Int) = ofG (vG (l.getD i 0)) := by rw [ye_, nn_ (bl_ he i Qa)]
  rw [show wrap64 ((i : Int) + 1) = ((i + 1 : Nat) : Int) from by unfold wrap64; omega, hp, os_, hv]
  rw [show Go.bits .xor .i64 (ofG (hsum l (GF.ex j) i * GF.ex j)) (ofG (vG (l.getD i 0))) = ofG (hsum l (GF.ex j) (i + 1)) from zk_ _ _, ← hp]
  exact ih (i + 1) k Qa Qa
theorem ur_ (l : List Int) (j : Nat) (he : uj_ l = true) (hl : l.length ≤ 100) (k : Nat) (hk : 102 ≤ k) : nb_.f k l (j : Int) = some (ofG (psum l j l.length)) := by
 unfold nb_.f
 simp only [cj_.f, Option.bind_some]
 exact gi1_ l j he hl l.length 0 k Qa Qa
def iw_.f (l : List Int) (j : Int) : Option Int := if uj_ l = true ∧ l.length ≤ 100 ∧ 0 ≤ j then some (ofG (psum l j.toNat l.length)) else none
theorem iw_.calls (A0 : Option Addr) (c0 : Nat) (l0 : List Int) (a1 : Int) (r : Int) (w : World) (hr0 : Kd.C (Kd.int .i64) w A0 l0.length l0) (hc0 : l0.length ≤ c0) (h : iw_.f l0 a1 = some r) :
  Calls Tryz.prog 118 #[.slice A0 l0.length c0, .int .i64 a1] w fun e w' => e = .returned (.int .i64 r) ∧ Below w.heap.size w w' := by
 unfold iw_.f at h
 by_cases hc : uj_ l0 = true ∧ l0.length ≤ 100 ∧ 0 ≤ a1
 rotate_left
 ·rw [if_neg hc] at h
  cases h
 rw [if_pos hc] at h
 have := ur_ l0 a1.toNat hc.1 hc.2.1 102 Qa
 rw [show ((a1.toNat : Nat) : Int) = a1 from by omega, h] at this
 exact nb_.calls 102 A0 c0 l0 a1 r w hr0 hc0 this
def gf_ (l : List Int) : Bool := isWord l 0 && (List.range 6).all fun j => decide (psum l (j + 1) l.length = 0)
theorem jq_ {l : List Int} (h : isWord l 0 = true) : uj_ l = true ∧ 7 ≤ l.length ∧ l.length ≤ 15 := by
 unfold isWord at h
 simp only [Bool.and_eq_true, decide_eq_true_eq, Bool.not_eq_true', List.any_eq_false] at h
 refine ⟨List.all_eq_true.2 fun x hx => ?_, h.1.1, h.1.2⟩
 have := h.2 x hx
 simp [fg_] at this
 simp [isEl]
 omega
theorem og1_ (l : List Int) (he : uj_ l = true) (hl : l.length ≤ 100) (hw : isWord l 0 = true) : ∀ (d j k : Nat), j + d = 6 → 102 + d < k → (∀ j', j' < j → psum l (j' + 1) l.length = 0) → xb_.l0 k l ((j : Int) + 1) = some (gf_ l) := by
 intro d
 induction d with
 | zero =>
  intro j k hj hk hz
  obtain ⟨k, rfl⟩ : ∃ m, k = m + 1 := ⟨k - 1, Qa⟩
  simp only [xb_.l0]
  rw [if_neg Qa]
  have : ((List.range 6).all fun j => decide (psum l (j + 1) l.length = 0)) = true := List.all_eq_true.2 fun j' hj' => by simpa using hz j' (by have := List.mem_range.1 hj'; omega)
  unfold gf_
  rw [hw, this]; rfl
 | succ d ih =>
  intro j k hj hk hz
  obtain ⟨k, rfl⟩ : ∃ m, k = m + 1 := ⟨k - 1, Qa⟩
  simp only [xb_.l0]
  have := ur_ l (j + 1) he hl k Qa
  rw [show ((j + 1 : Nat) : Int) = (j : Int) + 1 from by omega] at this
  rw [if_pos Qa, this]
  simp only [Option.bind_some]
  by_cases h0 : psum l (j + 1) l.length = 0
  rotate_left
  ·rw [if_neg (fun e => h0 (vl_.1 e))]
   have : ((List.range 6).all fun j => decide (psum l (j + 1) l.length = 0)) = false := List.all_eq_false.2 ⟨j, List.mem_range.2 Qa, by simpa using h0⟩
   unfold gf_
   rw [this, Bool.and_false]
  rw [if_pos (by rw [h0]; rfl), show wrap64 ((j : Int) + 1 + 1) = ((j + 1 : Nat) : Int) + 1 from by unfold wrap64; omega]
  refine ih (j + 1) k Qa Qa fun j' hj' => ?_
  rcases Nat.lt_or_ge j' j with h | h
  ·exact hz j' h
  ·rw [show j' = j from by omega]; exact h0
theorem ny_ (l : List Int) (k : Nat) (hk : 110 ≤ k) : xb_.f k l = some (gf_ l) := by
 unfold xb_.f
 rw [zu_ l 0 k Qa]
 simp only [Option.bind_some]
 by_cases hw : isWord l 0 = true
 ·obtain ⟨h1, h2, h3⟩ := jq_ hw
  rw [if_pos hw]
  exact og1_ l h1 Qa hw 6 0 k Qa Qa (fun j' hj' => by omega)
 rw [if_neg hw]
 unfold gf_
 rw [show isWord l 0 = false from by simpa using hw]; rfl
def yh1_.f (l : List Int) : Option Bool := some (gf_ l)
theorem yh1_.calls (A0 : Option Addr) (c0 : Nat) (l0 : List Int) (r : Bool) (w : World) (hr0 : Kd.C (Kd.int .i64) w A0 l0.length l0) (hc0 : l0.length ≤ c0) (h : yh1_.f l0 = some r) :
  Calls Tryz.prog 121 #[.slice A0 l0.length c0] w fun e w' => e = .returned (.bool r) ∧ Below w.heap.size w w' :=
 xb_.calls 110 A0 c0 l0 r w hr0 hc0 ((ny_ l0 110 Qa).trans h)
def ih_.f (l : List Int) (a : Int) : Option Bool := some (isWord l a)
theorem ih_.calls (A0 : Option Addr) (c0 : Nat) (l0 : List Int) (a1 : Int) (r : Bool) (w : World) (hr0 : Kd.C (Kd.int .i64) w A0 l0.length l0) (hc0 : l0.length ≤ c0) (h : ih_.f l0 a1 = some r) :
  Calls Tryz.prog 87 #[.slice A0 l0.length c0, .int .i64 a1] w fun e w' => e = .returned (.bool r) ∧ ja_ w w' :=
 fa_.calls 18 A0 c0 l0 a1 r w hr0 hc0 ((zu_ l0 a1 18 Qa).trans h)
end Go.Proofs.YtpkhgapifnjbeaaGreatDoor.G
end
section
namespace Go.Proofs.YtpkhgapifnjbeaaGreatDoor.G
open RowKit Zw.PrintWords Zw.PrintLast Zw.PrintMore Rs
theorem sb1_ {W : World} {base e1 e2 C : Nat} {ok : Nat → Prop} {v : Value} {xs : List (List Int)} (H : Kd.S (Kd.slice e2 (Kd.int .i64)) e1 W base ok v xs) (hR : 0 < xs.length) (hC : ∀ x, x ∈ xs → x.length = C) (hC0 : 0 < C) :
  ∃ g cap h cc, v = .slice (some ⟨g, 0, none⟩) xs.length cap ∧ Mat W base g xs.length C h cc (fun i k => (xs.getD i []).getD k 0) ∧ ok g ∧ ∀ i, i < xs.length → ok (h i) := by
 have H0 := H
 obtain ⟨f, h0, inner, ho, hr⟩ := H
 have hsz : ((Kd.slice e2 (Kd.int .i64)).tag f).sz = 1 := rfl
 rw [List.length_zipIdx, hsz] at ho
 rcases ho with ⟨hlen, ⟨_, hn⟩ | ⟨g, cap, cur, rfl, hb, hg, h1, h2, h3, h4⟩⟩
 ·omega
 have hrow : ∀ i, i < xs.length → ∃ p : Nat × Nat, inner[i]? = some (.slice (some ⟨p.1, 0, none⟩) C p.2) ∧ Kd.R (Kd.int .i64) e2 W base (fun k => (ok k ∧ some k ≠ some g) ∧ f k = i) (.slice (some ⟨p.1, 0, none⟩) C p.2) (xs.getD i []) ∧ base ≤ p.1 := by
  intro i hi
  have hx : xs[i]? = some (xs.getD i []) := by rw [List.getD_eq_getElem?_getD, List.getElem?_eq_getElem hi]; rfl
  have hm := hr.2 i (xs.getD i [], i) (Kd.yc1_ hx)
  rw [hsz, Nat.mul_one] at hm
  obtain ⟨vi, hcs, hR1⟩ := hm
  have hxl : (xs.getD i []).length = C := hC _ (List.mem_iff_getElem?.2 ⟨i, hx⟩)
  obtain ⟨hg1, c1, he, hb1, _⟩ := Kd.mi_ hR1 (by rw [hxl]; exact hC0)
  rw [hxl] at he
  subst he
  refine ⟨(hg1, c1), ?_, hR1, hb1⟩
  have : (List.take 1 (List.drop i inner))[0]? = some (.slice (some ⟨hg1, 0, none⟩) C c1) := by rw [hcs]; rfl
  rw [List.getElem?_take] at this
  simpa using this
 obtain ⟨F, hF⟩ := ux_ hrow
 have hcell : ∀ j, W.cell? ⟨g, j, none⟩ = cur[j]? := fun j => cell_of_row W g j cur e1 (0, 0) hg
 refine ⟨g, cap, fun i => (F i).1, fun i => (F i).2, rfl, ⟨fun i hi => ?_, fun i hi => frozen_of_row W g i cur e1 hg, fun i k hi hk => ?_, fun i k hi hk => ?_, fun i hi => ?_, fun i j hi hj e => ?_, fun i hi => (hF i hi).2.2, hb⟩, h0 g rfl, fun i hi => ((hF i hi).2.1.1 _ rfl).1.1⟩
 ·rw [hcell, ← (hF i hi).1, ← h4]
  rw [List.getElem?_take, if_pos Qa, Array.getElem?_toList]
 ·have := (Kd.sg_ 0 (hF i hi).2.1 (k : Int) Qa Qa).1
  rw [Int.toNat_natCast] at this
  rw [this]
  simp [rdOf, List.getD_eq_getElem?_getD]
 ·have := (Kd.sg_ 0 (hF i hi).2.1 (k : Int) Qa Qa).2
  rwa [Int.toNat_natCast] at this
 ·have := (hF i hi).2.1.1 (F i).1 rfl
  intro e
  exact this.1.2 (by rw [e])
 have a := (hF i hi).2.1.1 (F i).1 rfl
 have b := (hF j hj).2.1.1 (F j).1 rfl
 have e' : (F i).1 = (F j).1 := e
 rw [e'] at a
 exact a.2.symm.trans b.2
structure Tl (W : World) (base g R C : Nat) (h cc : Nat → Nat) (M : Nat → Nat → Int) (T go co L : Nat) (x : List Int) : Prop where
 mat : Mat W base g R C h cc M
 row : Kd.R (Kd.int .i64) T W base (fun k => k = go) (.slice (some ⟨go, 0, none⟩) L co) x
 ng : g ≠ go
 nh : ∀ i, i < R → h i ≠ go
 el : ∀ i k, i < R → k < C → isEl (M i k) = true
section
variable {W W1 : World} {base g R C T go co L : Nat} {h cc : Nat → Nat} {M : Nat → Nat → Int} {x : List Int}
theorem Tl.drewN (H : Tl W base g R C h cc M T go co L x) (n : Nat) : Tl (W.drewN n) base g R C h cc M T go co L x := ⟨H.mat.drewN n, Kd.fb_ H.row n, H.ng, H.nh, H.el⟩
theorem Tl.drew (H : Tl W base g R C h cc M T go co L x) : Tl W.drew base g R C h cc M T go co L x := ⟨H.mat.drew, Kd.rb_ H.row, H.ng, H.nh, H.el⟩
theorem Tl.below (H : Tl W base g R C h cc M T go co L x) (hb : Below W.heap.size W W1) : Tl W1 base g R C h cc M T go co L x := ⟨H.mat.below hb, Kd.ne_ H.row hb, H.ng, H.nh, H.el⟩
theorem Tl.congr {M' : Nat → Nat → Int} (H : Tl W base g R C h cc M T go co L x) (e : ∀ i k, i < R → k < C → M i k = M' i k) : Tl W base g R C h cc M' T go co L x :=
 ⟨H.mat.congr e, H.row, H.ng, H.nh, fun i k hi hk => by rw [← e i k hi hk]; exact H.el i k hi hk⟩
theorem Tl.set (H : Tl W base g R C h cc M T go co L x) (i k : Nat) (hi : i < R) (hk : k < C) (y : Int) (hy : isEl y = true) : Tl (W.setCell ⟨h i, k, none⟩ (.int .i64 y)) base g R C h cc (updM M i k y) T go co L x :=
 ⟨H.mat.set i k hi hk y, Kd.jf_ H.row (fun k hk e => H.nh i hi (e.symm.trans hk)) _, H.ng, H.nh, fun i' k' hi' hk' => by unfold updM; split; exact hy; exact H.el i' k' hi' hk'⟩
theorem Tl.swap (H : Tl W base g R C h cc M T go co L x) (a b : Nat) (ha : a < R) (hb : b < R) :
  Tl ((W.setCell ⟨g, a, none⟩ (.slice (some ⟨h b, 0, none⟩) C (cc b))).setCell ⟨g, b, none⟩ (.slice (some ⟨h a, 0, none⟩) C (cc a))) base g R C (dg_ h a b) (dg_ cc a b) (dg_ M a b) T go co L x :=
 ⟨H.mat.swap a b ha hb, Kd.jf_ (Kd.jf_ H.row (fun k hk e => H.ng (e.symm.trans hk)) _) (fun k hk e => H.ng (e.symm.trans hk)) _, H.ng, fun i hi => lo_ (p := fun y => y ≠ go) H.nh ha hb hi, fun i k hi hk => lo_ (p := fun f : Nat → Int => isEl (f k) = true) (fun i hi => H.el i k hi hk) ha hb hi⟩
theorem Tl.put (H : Tl W base g R C h cc M T go co L x) (p y : Int) : Tl (W.setCell ⟨go, p.toNat, none⟩ (.int .i64 y)) base g R C h cc M T go co L (x.set p.toNat y) := by
 have hne : ∀ (q : Addr), q.block ≠ go → (W.setCell ⟨go, p.toNat, none⟩ (.int .i64 y)).cell? q = W.cell? q := fun q hq => World.cell?_setCell_other _ _ _ _ (fun e => hq (by rw [← e]))
 exact ⟨⟨fun i hi => (hne _ H.ng).trans (H.mat.out i hi), fun i hi => by rw [World.frozen?_setCell]; exact H.mat.fro i hi, fun i k hi hk => (hne _ (H.nh i hi)).trans (H.mat.cel i k hi hk), fun i k hi hk => by rw [World.frozen?_setCell]; exact H.mat.frc i k hi hk, H.mat.ne, H.mat.inj, H.mat.lo, H.mat.lg⟩, Kd.jn_ H.row p y, H.ng, H.nh, H.el⟩
end
theorem xc1_ {a : Int} (h : isEl a = true) : xorI a 0 = a := by
 have := uw_ h (show isEl 0 = true from rfl)
 rw [this, show toG 0 = 0 from rfl, GF.add_zero, xg_ ((ge_ a).1 h).1 ((ge_ a).1 h).2]
theorem ub1_ (a b : Int) : mulI a b = mulI b a := by
 unfold mulI
 rw [Bool.and_comm, GF.mul_comm]
theorem xt_ {a b : Int} (ha : isEl a = true) (hb : isEl b = true) : isEl (xorI a b) = true := by
 rw [uw_ ha hb]; exact pg_ _
theorem nt_ (M : Nat → Nat → Int) (c i R C : Nat) (hi : i ≠ c) (hel : ∀ k, k < C → isEl (M i k) = true) : ∀ i' k, k < C → tg_ M c i C i' k = rh_ M c (i + 1) i' k := by
 by_cases hz : M i c = 0
 rotate_left
 ·exact dp_ M c i C hi hz
 intro i' k hk
 rw [wj_ M c i (.inr hz)]
 unfold tg_
 by_cases h1 : i' = i
 ·subst h1
  rw [if_pos rfl, if_pos hk, hz, rj_, xc1_ (hel k hk), ok_]
 ·rw [if_neg h1]
def tailTo (places : List Int) (M : Nat → Nat → Int) : Nat → List Int → List Int
 | 0, out => out
 | i + 1, out => (tailTo places M i out).set (rd places (i : Int)).toNat (M i places.length)
theorem si_ (places : List Int) (M : Nat → Nat → Int) (n : Nat) (out : List Int) : (tailTo places M n out).length = out.length := by
 induction n with
 | zero => rfl
 | succ n ih => simp only [tailTo, List.length_set, ih]
def dq_ (out : List Int) (rows : List (List Int)) (places : List Int) : Bool :=
 decide (rows.length = 6 ∧ places.length ≤ 6 ∧ 1 ≤ out.length ∧ out.length ≤ 15) && places.all (fun p => decide (0 ≤ p) && decide (p < out.length)) && rows.all (fun r => decide (r.length = places.length + 1) && r.all isEl)
def ei_.f (out : List Int) (rows : List (List Int)) (places : List Int) : Option (List Int × Bool) :=
 if dq_ out rows places = true then
  (match gjI 6 (rf_ rows) places.length with
  | none => some ([], false)
  | some M => some (tailTo places M places.length out, gf_ (tailTo places M places.length out)))
 else none
theorem ei_.ok {out : List Int} {rows : List (List Int)} {places : List Int} {r : List Int × Bool} (h : ei_.f out rows places = some r) : dq_ out rows places = true := by
 unfold ei_.f at h
 by_cases hc : dq_ out rows places = true
 ·exact hc
 ·rw [if_neg hc] at h; cases h
theorem aa1_ {out : List Int} {rows : List (List Int)} {places : List Int} (h : dq_ out rows places = true) :
  rows.length = 6 ∧ places.length ≤ 6 ∧ 1 ≤ out.length ∧ out.length ≤ 15 ∧ (∀ i : Nat, i < places.length → 0 ≤ rd places (i : Int) ∧ rd places (i : Int) < out.length) ∧ (∀ x, x ∈ rows → x.length = places.length + 1) ∧ ∀ i k, i < rows.length → k < places.length + 1 → isEl (rf_ rows i k) = true := by
 unfold dq_ at h
 simp only [Bool.and_eq_true, decide_eq_true_eq, List.all_eq_true] at h
 obtain ⟨⟨⟨h1, h2, h3, h4⟩, h5⟩, h6⟩ := h
 refine ⟨h1, h2, h3, h4, fun i hi => ?_, fun x hx => (h6 x hx).1, fun i k hi hk => ?_⟩
 ·rw [ye_, List.getD_eq_getElem?_getD, List.getElem?_eq_getElem hi]
  exact h5 _ (List.getElem_mem hi)
 unfold rf_
 have hm : rows.getD i [] ∈ rows := by rw [List.getD_eq_getElem?_getD, List.getElem?_eq_getElem hi]; exact List.getElem_mem hi
 have := h6 _ hm
 rw [List.getD_eq_getElem?_getD (l := rows.getD i []), List.getElem?_eq_getElem (by rw [this.1]; exact hk)]
 exact this.2 _ (List.getElem_mem _)
theorem ei_.none {out : List Int} {rows : List (List Int)} {places : List Int} {t : List Int} {u : Bool} (h : ei_.f out rows places = some (t, u)) (hg : gjI 6 (rf_ rows) places.length = none) : t = [] ∧ u = false := by
 unfold ei_.f at h
 rw [if_pos (ei_.ok h), hg] at h
 simp only [Option.some.injEq, Prod.mk.injEq] at h
 exact ⟨h.1.symm, h.2.symm⟩
theorem ei_.some {out : List Int} {rows : List (List Int)} {places : List Int} {t : List Int} {u : Bool} {M : Nat → Nat → Int} (h : ei_.f out rows places = some (t, u)) (hg : gjI 6 (rf_ rows) places.length = some M) : t = tailTo places M places.length out ∧ u = gf_ (tailTo places M places.length out) := by
 unfold ei_.f at h
 rw [if_pos (ei_.ok h), hg] at h
 simp only [Option.some.injEq, Prod.mk.injEq] at h
 exact ⟨h.1.symm, h.2.symm⟩
theorem ut_ {R n : Nat} {M M' : Nat → Nat → Int} {c : Nat} (h : gjI R M c = some M') (hp : pivot M' c R = R) (hc : c < n) : gjI R M n = none := by
 have := ox_ h hp (n - (c + 1))
 rwa [show c + 1 + (n - (c + 1)) = n from by omega] at this
theorem md1_ (l : List Int) (n : Nat) (hn : n = l.length) : l.take (min l.length (List.replicate n (0 : Int)).length) ++ (List.replicate n (0 : Int)).drop (min l.length (List.replicate n (0 : Int)).length) = l := by
 subst hn
 simp
theorem uo_ {l t : List Int} (h : wh_.f l = some t) : t = l ∧ l.length < 17592186044416 := by
 unfold wh_.f at h
 by_cases hl : l.length < 17592186044416
 ·exact Yr
 ·exact Xm
end Go.Proofs.YtpkhgapifnjbeaaGreatDoor.G
end
section
namespace Go.Proofs.YtpkhgapifnjbeaaGreatDoor.F
open RowKit G Zw.PrintWords Zw.PrintLast Zw.PrintMore
attribute [local go_sem] id_ kd_ vd_ wd_ bd_ cd_ jd_ ld_
def errW : Option Int → Value
 | none => .nilIface
 | some c => .iface 0 (.int .i64 c)
theorem ta_ : errW none = .nilIface := rfl
theorem ua_ (c : Int) : errW (some c) = .iface 0 (.int .i64 c) := rfl
theorem mn_ : (Tryz.prog.info? 87).map (fun i => (i.zero, i.size, i.bytes)) = some (some (.int .i64 0), 1, 8) := by kernel_rfl
theorem zv_ : (Tryz.prog.info? 124).map (fun i => (i.zero, i.size, i.bytes)) = some (some (.slice none 0 0), 1, 24) := by kernel_rfl
def sf_ (xs : List (List Int)) (i : Int) : (List Int) := xs.getD i.toNat ([] : List Int)
theorem dt_ {w : World} {A : Option Addr} {n : Nat} {xs : List (List Int)} (h : Kd.C (Kd.slice 3 (Kd.int .i64)) w A n xs) (i : Int) (h0 : 0 ≤ i) (h1 : i < n) : ∃ ad A0 c0, A = some ad ∧ w.cell? (ad.add i.toNat) = some (.slice A0 (sf_ xs i).length c0) ∧ (sf_ xs i).length ≤ c0 ∧ (Kd.int .i64).C w A0 (sf_ xs i).length (sf_ xs i) := by
 obtain ⟨ad, c, e, _, hK, hc0⟩ := Kd.oi_ h ([] : List Int) i h0 h1
 have hc : ∀ j u, c[j]? = some u → w.cell? (ad.add (i.toNat * 1 + j)) = some u := hc0
 obtain ⟨A0, c0, rfl, l0, g0⟩ := hK
 exact ⟨ad, A0, c0, e, Q0, l0, g0⟩
def lm_ (xs : List (List Int)) (i : Int) : (List Int) := xs.getD i.toNat ([] : List Int)
theorem at_L2 {w : World} {A : Option Addr} {n : Nat} {xs : List (List Int)} (h : Kd.C (Kd.slice 88 (Kd.int .i64)) w A n xs) (i : Int) (h0 : 0 ≤ i) (h1 : i < n) : ∃ ad A0 c0, A = some ad ∧ w.cell? (ad.add i.toNat) = some (.slice A0 (lm_ xs i).length c0) ∧ (lm_ xs i).length ≤ c0 ∧ (Kd.int .i64).C w A0 (lm_ xs i).length (lm_ xs i) := by
 obtain ⟨ad, c, e, _, hK, hc0⟩ := Kd.oi_ h ([] : List Int) i h0 h1
 have hc : ∀ j u, c[j]? = some u → w.cell? (ad.add (i.toNat * 1 + j)) = some u := hc0
 obtain ⟨A0, c0, rfl, l0, g0⟩ := hK
 exact ⟨ad, A0, c0, e, Q0, l0, g0⟩
def jh_ (xs : List (List Int)) (i : Int) : (List Int) := xs.getD i.toNat ([] : List Int)
theorem ia1_ {w : World} {A : Option Addr} {n : Nat} {xs : List (List Int)} (h : Kd.C (Kd.slice 87 (Kd.int .i64)) w A n xs) (i : Int) (h0 : 0 ≤ i) (h1 : i < n) : ∃ ad A0 c0, A = some ad ∧ w.cell? (ad.add i.toNat) = some (.slice A0 (jh_ xs i).length c0) ∧ (jh_ xs i).length ≤ c0 ∧ (Kd.int .i64).C w A0 (jh_ xs i).length (jh_ xs i) := by
 obtain ⟨ad, c, e, _, hK, hc0⟩ := Kd.oi_ h ([] : List Int) i h0 h1
 have hc : ∀ j u, c[j]? = some u → w.cell? (ad.add (i.toNat * 1 + j)) = some u := hc0
 obtain ⟨A0, c0, rfl, l0, g0⟩ := hK
 exact ⟨ad, A0, c0, e, Q0, l0, g0⟩
def bk_ (xs : List (List (List Int))) (i : Int) : (List (List Int)) := xs.getD i.toNat ([] : List (List Int))
theorem jg1_ {w : World} {A : Option Addr} {n : Nat} {xs : List (List (List Int))} (h : Kd.C (Kd.slice 124 (Kd.slice 87 (Kd.int .i64))) w A n xs) (i : Int) (h0 : 0 ≤ i) (h1 : i < n) : ∃ ad A0 c0, A = some ad ∧ w.cell? (ad.add i.toNat) = some (.slice A0 (bk_ xs i).length c0) ∧ (bk_ xs i).length ≤ c0 ∧ (Kd.slice 87 (Kd.int .i64)).C w A0 (bk_ xs i).length (bk_ xs i) := by
 obtain ⟨ad, c, e, _, hK, hc0⟩ := Kd.oi_ h ([] : List (List Int)) i h0 h1
 have hc : ∀ j u, c[j]? = some u → w.cell? (ad.add (i.toNat * 1 + j)) = some u := hc0
 obtain ⟨A0, c0, rfl, l0, g0⟩ := hK
 exact ⟨ad, A0, c0, e, Q0, l0, g0⟩
end Go.Proofs.YtpkhgapifnjbeaaGreatDoor.F
end
