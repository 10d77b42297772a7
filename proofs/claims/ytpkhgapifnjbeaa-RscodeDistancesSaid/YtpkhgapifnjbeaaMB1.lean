/- A part of the proofs of this seat's statements (texts put together by pack2.py of this claim's repo). -/
import Derived.Test.YtpkhgapifnjbeaaProg
import Derived.Below
import Derived.Deep.Draws
import Derived.Deep.AppendLies
import Derived.Maps.AppendAt
import Derived.OwnWalk
import Derived.Laws.BytesArg
import Derived.Laws.MakeOwn
import Derived.Laws.OwnMore
import Derived.Deep.OwnRows
import Derived.Tactics
import Derived.Lib.ConvBytes
import Derived.Laws.Slices
import Derived.WalkKit
import Derived.KernelRfl
import Derived.RowKit3
import Derived.Deep.LoopGhost
import Derived.Deep.QuietTactic
import Derived.BigQuiet
import Derived.WideLaws
import Derived.Deep.DeepCutAuto
import Derived.Deep.CutBlock
import Derived.Deep.RegionHeld3
import Derived.Laws.Rows
import Derived.Lib.AppendStr
import Derived.ArgAppend
import Derived.Laws.IdiomCopy
import Derived.OrdersHeld
import Derived.Laws.BitsLemmas
import Derived.RowKit
import Derived.Lib.Hide
import Derived.Outline
import Derived.Deep.WholeRow
import Derived.Laws.CopyOwn
import Derived.LoopTactic
import Derived.WalkSpells
import Derived.Test.YtpkhgapifnjbeaaMB0
section
namespace Go.Proofs.YtpkhgapifnjbeaaW.PrintWords
open Go.RowKit
namespace Kd
def chunks (sz : Nat) (n : Nat) (inner : List Value) : List (List Value) := (List.range n).map fun j => (inner.drop (j * sz)).take sz
theorem gi_ (sz n : Nat) (inner : List Value) : (chunks sz n inner).length = n := by simp [chunks]
theorem fy_ {sz n : Nat} {inner : List Value} {j : Nat} (hj : j < n) : (chunks sz n inner)[j]? = some ((inner.drop (j * sz)).take sz) := by simp [chunks, hj]
theorem xq_ {sz n : Nat} {inner : List Value} {j : Nat} {c : List Value} (h : (chunks sz n inner)[j]? = some c) : c = (inner.drop (j * sz)).take sz := by
 have hj : j < n := by have := (List.getElem?_eq_some_iff.1 h).1; rwa [gi_] at this
 rw [fy_ hj] at h
 injection h with h
 exact h.symm
theorem wb1_ {α : Type} {Rr : α → List Value → Prop} {sz : Nat} {xs : List α} {inner : List Value} (h : Reps Rr sz xs inner) (hR : ∀ x c, Rr x c → c.length = sz ∧ ∀ u ∈ c, u.oneCell' = true) : Reps (fun x cs => cs = x ∧ cs.length = sz ∧ ∀ u ∈ cs, u.oneCell' = true) sz (chunks sz xs.length inner) inner := by
 refine ⟨by rw [gi_]; exact h.1, fun j p hj => ?_⟩
 have hjl : j < xs.length := by have := (List.getElem?_eq_some_iff.1 hj).1; rwa [gi_] at this
 have hp := xq_ hj
 exact ⟨hp.symm, hR _ _ (h.2 j _ (List.getElem?_eq_getElem hjl))⟩
section
variable {α : Type} {d : Kd α} {e base n cc g : Nat} {ok ok' okp S : Nat → Prop} {w w1 W W1 : World} {A : Option Addr} {u v v1 : Value} {xs : List α} {x : α} {c : List Value}
def N {α : Type} (d : Kd α) (e : Nat) (w : World) (base : Nat) (ok : Nat → Prop) (v : Value) (xs : List α) : Prop :=
 (∀ k, v.ownBlock = some k → ok k) ∧ ∃ rows : List (List Value), rows.length = xs.length ∧ (raw d.sz).R e w base (fun k => some k = v.ownBlock) v rows ∧ ∀ (j : Nat) (x : α) (c : List Value), xs[j]? = some x → rows[j]? = some c → FK d w (fun k => ok k ∧ some k ≠ v.ownBlock) x c
theorem R_N (h : d.R e w base ok v xs) : N d e w base ok v xs := by
 obtain ⟨h0, inner, ho, hr⟩ := h
 refine ⟨h0, chunks d.sz xs.length inner, gi_ _ _ _, ⟨fun k hk => hk.symm, inner, by rw [gi_]; exact ho, wb1_ hr (fun x c hp => ⟨d.K_len (d.K_of_M hp), d.K_one (d.K_of_M hp)⟩)⟩, fun j x c hx hc => ?_⟩
 rw [xq_ hc]
 exact vc1_ (hr.2 j x hx)
theorem mh_ (d : Kd α) (e : Nat) (w : World) (base : Nat) (ok : Nat → Prop) : N d e w base ok (.slice none 0 0) [] := R_N (uf_ _ _ _ _ _)
end
end Kd
end Go.Proofs.YtpkhgapifnjbeaaW.PrintWords
end
section
namespace Go.Proofs.Ytpkhgapifnjbeaa.B
open Go.RowKit Go.Proofs.YtpkhgapifnjbeaaW.PrintWords Go.Proofs.YtpkhgapifnjbeaaW.PrintLast Go.Proofs.YtpkhgapifnjbeaaW.PrintMore
attribute [local go_sem] dd_ fd_ rd_ sd_ uc_ vc_ ed_ gd_
set_option linter.unusedVariables false
set_option linter.unusedSimpArgs false
def errW : Option Int → Value
 | none => .nilIface
 | some c => .iface 0 (.int .i64 c)
theorem bb_ : errW none = .nilIface := rfl
theorem cb_ (c : Int) : errW (some c) = .iface 0 (.int .i64 c) := rfl
end Go.Proofs.Ytpkhgapifnjbeaa.B
end
section
namespace Go.Proofs.Ytpkhgapifnjbeaa.B
open Go.RowKit Go.Proofs.YtpkhgapifnjbeaaW.PrintWords Go.Proofs.YtpkhgapifnjbeaaW.PrintLast Go.Proofs.YtpkhgapifnjbeaaW.PrintMore
attribute [local go_sem] dd_ fd_ rd_ sd_ uc_ vc_ ed_ gd_
set_option linter.unusedVariables false
set_option linter.unusedSimpArgs false
def bd_.f (a0 : Int) : Option (Int) := if (wrap64 (a0 * 2)) ≥ 32 then (some (Go.bits .xor .i64 (wrap64 (a0 * 2)) 37)) else (some (wrap64 (a0 * 2)))
set_option maxHeartbeats 8000000 in
set_option maxRecDepth 100000 in
theorem bd_.calls (a0 : Int) (r : Int) (w : World) (h : bd_.f a0 = some r) :
  Calls Try.prog 41 #[.int .i64 a0] w fun e w' => e = .returned (.int .i64 r) ∧ ra_ w w' := by
 have H : (if (wrap64 (a0 * 2)) ≥ 32 then (some (Go.bits .xor .i64 (wrap64 (a0 * 2)) 37)) else (some (wrap64 (a0 * 2)))) = some r := h
 clear h
 by_cases c2 : (wrap64 (a0 * 2)) ≥ 32
 ·rw [if_pos c2] at H
  have c2b0 : decide (32 ≤ (wrap64 (a0 * 2))) = true := decide_eq_true c2
  clear c2
  obtain rfl := Option.some.inj H
  go_enter Try.func41, Try.ntmps41
  go_wp2
  go_ret
  exact ⟨by first | rfl | (simp; done) | (simp [*]; done), by repeat (first | exact ra_.refl _ | apply ra_.step)⟩
 ·rw [if_neg c2] at H
  have c2b0 : decide (32 ≤ (wrap64 (a0 * 2))) = false := decide_eq_false c2
  clear c2
  obtain rfl := Option.some.inj H
  go_enter Try.func41, Try.ntmps41
  go_wp2
  go_ret
  exact ⟨by first | rfl | (simp; done) | (simp [*]; done), by repeat (first | exact ra_.refl _ | apply ra_.step)⟩
def jd_.l0 : Nat → Int → Int → Int → Option (Int)
 | 0, _, _, _ => none
 | k + 1, x3, x7, x8 => if x8 < x7 then ((bd_.f x3).bind fun t101 => (jd_.l0 k t101 x7 (wrap64 (x8 + 1)))) else (some x3)
def jd_.f (k : Nat) (a0 : Int) : Option (Int) := jd_.l0 k 1 (Int.tmod (wrap64 ((Int.tmod a0 31) + 31)) 31) 0
theorem jd_.xc_ : ∀ k, (∀ y0 y1 y2, LeO (jd_.l0 k y0 y1 y2) (jd_.l0 (k + 1) y0 y1 y2))
 | 0 => fun _ _ _ r h => by simp [jd_.l0] at h
 | k + 1 => by
  have ih0 := jd_.xc_ k
  ·intro y0 y1 y2
   unfold jd_.l0
   repeat' first
   | (with_reducible exact ih0 _ _ _)
   | (with_reducible exact LeO.refl _)
   | (with_reducible exact LeO.none _)
   | (with_reducible refine LeO.ite ?_ ?_)
   | (with_reducible refine LeO.bind ?_ (fun _ => ?_))
   | exact ih0 _ _ _
   | exact LeO.none _
   | refine LeO.ite ?_ ?_
   | refine LeO.bind ?_ (fun _ => ?_)
theorem jd_.mono : ∀ a0 k, LeO (jd_.f k a0) (jd_.f (k + 1) a0) := by
 intro a0 k
 have ih0 := jd_.xc_ k
 unfold jd_.f
 repeat' first
   | (with_reducible exact ih0 _ _ _)
   | (with_reducible exact LeO.refl _)
   | (with_reducible exact LeO.none _)
   | (with_reducible refine LeO.ite ?_ ?_)
   | (with_reducible refine LeO.bind ?_ (fun _ => ?_))
   | exact ih0 _ _ _
   | exact LeO.none _
   | refine LeO.ite ?_ ?_
   | refine LeO.bind ?_ (fun _ => ?_)
set_option maxHeartbeats 8000000 in
set_option maxRecDepth 100000 in
theorem jd_.calls (k : Nat) (a0 : Int) (r : Int) (w : World) (h : jd_.f k a0 = some r) :
  Calls Try.prog 20 #[.int .i64 a0] w fun e w' => e = .returned (.int .i64 r) ∧ ra_ w w' := by
 have H : (jd_.l0 k 1 (Int.tmod (wrap64 ((Int.tmod a0 31) + 31)) 31) 0) = some r := h
 clear h
 have H' := ba_.mk H
 clear H
 go_enter Try.func20, Try.ntmps20
 go_wp2
 go_loopg [3, 8] k (fun kq v3 v8 w' => ∃ (x3_1 : Int) (x8_1 : Int), v3 = .int .i64 x3_1 ∧ v8 = .int .i64 x8_1 ∧ ba_ (jd_.l0 kq x3_1 (Int.tmod (wrap64 ((Int.tmod a0 31) + 31)) 31) x8_1 = some r) ∧ ba_ (kq ≤ k) ∧ ra_ w w')
 case atStart => exact ⟨(1), (0), (by first | rfl | (simp; done) | (simp [*]; done)), (by first | rfl | (simp; done) | (simp [*]; done)), H', ⟨Nat.le_refl _⟩, by repeat (first | exact ra_.refl _ | apply ra_.step)⟩
 case round =>
  clear H'
  obtain ⟨x3_1, x8_1, rfl, rfl, HA, HK1, ⟨m1, rfl⟩⟩ := hrel
  cases gk with
  | zero => exact absurd HA.out (by simp [jd_.l0])
  | succ k1 =>
   have H := HA.out
   clear HA
   simp only [jd_.l0] at H
   by_cases c2 : x8_1 < (Int.tmod (wrap64 ((Int.tmod a0 31) + 31)) 31)
   ·rw [if_pos c2] at H
    have c2b0 : decide (x8_1 < (Int.tmod (wrap64 ((Int.tmod a0 31) + 31)) 31)) = true := decide_eq_true c2
    clear c2
    replace H := Option.bind_eq_some_iff.mp H
    obtain ⟨t101, A30, H⟩ := H
    replace H : (jd_.l0 k1 t101 (Int.tmod (wrap64 ((Int.tmod a0 31) + 31)) 31) (wrap64 (x8_1 + 1))) = some r := H
    have A3 := ba_.mk A30
    clear A30
    have H' := ba_.mk H
    clear H
    go_wp2_with (first | ((with_reducible refine ua_ (f := 41) rfl ?_); refine hc_ (some 11) rfl rfl Try.func41 (by kernel_rfl) rfl #[.int .i64 x3_1] rfl (by (try simp only [List.map_toArray, List.map_cons, List.map_nil]); first | done | rfl | (simp only [List.length_drop, List.length_take]; rfl)) ?_; (with_reducible refine (bd_.calls x3_1 t101 _ A3.out).mono ?_); rintro e w' ⟨rfl, ⟨nd, rfl⟩⟩; refine ⟨_, rfl, ?_⟩))
    go_roundg k1
    case measure => have := HK1.out; omega
    case rel => exact ⟨(t101), (wrap64 (x8_1 + 1)), (by first | rfl | (simp; done) | (simp [*]; done)), (by first | rfl | (simp; done) | (simp [*]; done)), H', ⟨by have := HK1.out; omega⟩, by repeat (first | exact ra_.refl _ | apply ra_.step)⟩
   ·rw [if_neg c2] at H
    have c2b0 : decide (x8_1 < (Int.tmod (wrap64 ((Int.tmod a0 31) + 31)) 31)) = false := decide_eq_false c2
    clear c2
    obtain rfl := Option.some.inj H
    go_wp2
    go_ret
    exact ⟨by first | rfl | (simp; done) | (simp [*]; done), by repeat (first | exact ra_.refl _ | apply ra_.step)⟩
def kd_.f (a0 : Int) : Option (Bool) := if a0 ≥ 0 then (some (decide (a0 < 32))) else (some false)
set_option maxHeartbeats 8000000 in
set_option maxRecDepth 100000 in
theorem kd_.calls (a0 : Int) (r : Bool) (w : World) (h : kd_.f a0 = some r) :
  Calls Try.prog 38 #[.int .i64 a0] w fun e w' => e = .returned (.bool r) ∧ ra_ w w' := by
 have H : (if a0 ≥ 0 then (some (decide (a0 < 32))) else (some false)) = some r := h
 clear h
 by_cases c2 : a0 ≥ 0
 ·rw [if_pos c2] at H
  have c2b0 : decide (0 ≤ a0) = true := decide_eq_true c2
  clear c2
  obtain rfl := Option.some.inj H
  go_enter Try.func38, Try.ntmps38
  go_wp2
  go_ret
  exact ⟨by first | rfl | (simp; done) | (simp [*]; done), by repeat (first | exact ra_.refl _ | apply ra_.step)⟩
 ·rw [if_neg c2] at H
  have c2b0 : decide (0 ≤ a0) = false := decide_eq_false c2
  clear c2
  obtain rfl := Option.some.inj H
  go_enter Try.func38, Try.ntmps38
  go_wp2
  go_ret
  exact ⟨by first | rfl | (simp; done) | (simp [*]; done), by repeat (first | exact ra_.refl _ | apply ra_.step)⟩
def mb_.l0 : Nat → Int → Int → Int → Option (Int)
 | 0, _, _, _ => none
 | k + 1, x0, x3, x5 => if x5 < 31 then (if x3 = x0 then (some x5) else ((bd_.f x3).bind fun t102 => (mb_.l0 k x0 t102 (wrap64 (x5 + 1))))) else (some 0)
def mb_.f (k : Nat) (a0 : Int) : Option (Int) := mb_.l0 k a0 1 0
theorem mb_.xc_ : ∀ k, (∀ y0 y1 y2, LeO (mb_.l0 k y0 y1 y2) (mb_.l0 (k + 1) y0 y1 y2))
 | 0 => fun _ _ _ r h => by simp [mb_.l0] at h
 | k + 1 => by
  have ih0 := mb_.xc_ k
  ·intro y0 y1 y2
   unfold mb_.l0
   repeat' first
   | (with_reducible exact ih0 _ _ _)
   | (with_reducible exact LeO.refl _)
   | (with_reducible exact LeO.none _)
   | (with_reducible refine LeO.ite ?_ ?_)
   | (with_reducible refine LeO.bind ?_ (fun _ => ?_))
   | exact ih0 _ _ _
   | exact LeO.none _
   | refine LeO.ite ?_ ?_
   | refine LeO.bind ?_ (fun _ => ?_)
theorem mb_.mono : ∀ a0 k, LeO (mb_.f k a0) (mb_.f (k + 1) a0) := by
 intro a0 k
 have ih0 := mb_.xc_ k
 unfold mb_.f
 repeat' first
   | (with_reducible exact ih0 _ _ _)
   | (with_reducible exact LeO.refl _)
   | (with_reducible exact LeO.none _)
   | (with_reducible refine LeO.ite ?_ ?_)
   | (with_reducible refine LeO.bind ?_ (fun _ => ?_))
   | exact ih0 _ _ _
   | exact LeO.none _
   | refine LeO.ite ?_ ?_
   | refine LeO.bind ?_ (fun _ => ?_)
set_option maxHeartbeats 8000000 in
set_option maxRecDepth 100000 in
theorem mb_.calls (k : Nat) (a0 : Int) (r : Int) (w : World) (h : mb_.f k a0 = some r) :
  Calls Try.prog 39 #[.int .i64 a0] w fun e w' => e = .returned (.int .i64 r) ∧ ra_ w w' := by
 have H : (mb_.l0 k a0 1 0) = some r := h
 clear h
 have H' := ba_.mk H
 clear H
 go_enter Try.func39, Try.ntmps39
 go_wp2
 go_loopg [3, 5] k (fun kq v3 v5 w' => ∃ (x3_1 : Int) (x5_1 : Int), v3 = .int .i64 x3_1 ∧ v5 = .int .i64 x5_1 ∧ ba_ (mb_.l0 kq a0 x3_1 x5_1 = some r) ∧ ba_ (kq ≤ k) ∧ ra_ w w')
 case atStart => exact ⟨(1), (0), (by first | rfl | (simp; done) | (simp [*]; done)), (by first | rfl | (simp; done) | (simp [*]; done)), H', ⟨Nat.le_refl _⟩, by repeat (first | exact ra_.refl _ | apply ra_.step)⟩
 case round =>
  clear H'
  obtain ⟨x3_1, x5_1, rfl, rfl, HA, HK1, ⟨m1, rfl⟩⟩ := hrel
  cases gk with
  | zero => exact absurd HA.out (by simp [mb_.l0])
  | succ k1 =>
   have H := HA.out
   clear HA
   simp only [mb_.l0] at H
   by_cases c2 : x5_1 < 31
   ·rw [if_pos c2] at H
    have c2b0 : decide (x5_1 < 31) = true := decide_eq_true c2
    clear c2
    by_cases c3 : x3_1 = a0
    ·rw [if_pos c3] at H
     have c3b0 : (x3_1 == a0) = true := beq_iff_eq.mpr c3
     have c3b1 : (x3_1 != a0) = false := bne_eq_false_iff_eq.mpr c3
     clear c3
     obtain rfl := Option.some.inj H
     go_wp2
     go_ret
     exact ⟨by first | rfl | (simp; done) | (simp [*]; done), by repeat (first | exact ra_.refl _ | apply ra_.step)⟩
    ·rw [if_neg c3] at H
     have c3b0 : (x3_1 == a0) = false := beq_eq_false_iff_ne.mpr c3
     have c3b1 : (x3_1 != a0) = true := bne_iff_ne.mpr c3
     replace H := Option.bind_eq_some_iff.mp H
     obtain ⟨t102, A40, H⟩ := H
     replace H : (mb_.l0 k1 a0 t102 (wrap64 (x5_1 + 1))) = some r := H
     have A4 := ba_.mk A40
     clear A40
     have H' := ba_.mk H
     clear H
     go_wp2_with (first | ((with_reducible refine ua_ (f := 41) rfl ?_); refine hc_ (some 13) rfl rfl Try.func41 (by kernel_rfl) rfl #[.int .i64 x3_1] rfl (by (try simp only [List.map_toArray, List.map_cons, List.map_nil]); first | done | rfl | (simp only [List.length_drop, List.length_take]; rfl)) ?_; (with_reducible refine (bd_.calls x3_1 t102 _ A4.out).mono ?_); rintro e w' ⟨rfl, ⟨nd, rfl⟩⟩; refine ⟨_, rfl, ?_⟩))
     go_roundg k1
     case measure => have := HK1.out; omega
     case rel => exact ⟨(t102), (wrap64 (x5_1 + 1)), (by first | rfl | (simp; done) | (simp [*]; done)), (by first | rfl | (simp; done) | (simp [*]; done)), H', ⟨by have := HK1.out; omega⟩, by repeat (first | exact ra_.refl _ | apply ra_.step)⟩
   ·rw [if_neg c2] at H
    have c2b0 : decide (x5_1 < 31) = false := decide_eq_false c2
    clear c2
    obtain rfl := Option.some.inj H
    go_wp2
    go_ret
    exact ⟨by first | rfl | (simp; done) | (simp [*]; done), by repeat (first | exact ra_.refl _ | apply ra_.step)⟩
def qd_.j0 : Nat → Int → Int → Bool → Option (Int)
 | 0, _, _, _ => none
 | k + 1, x0, x1, x20 => if x20 = true then (some 0) else ((mb_.f k x0).bind fun t105 => ((mb_.f k x1).bind fun t106 => ((jd_.f k (wrap64 (t105 + t106))).bind fun t107 => (some t107))))
def qd_.f (k : Nat) (a0 : Int) (a1 : Int) : Option (Int) := (kd_.f a0).bind fun t103 => (if t103 = true then ((kd_.f a1).bind fun t104 => (if t104 = true then (if a0 = 0 then (qd_.j0 k a0 a1 true) else (qd_.j0 k a0 a1 (a1 == 0))) else (qd_.j0 k a0 a1 true))) else (qd_.j0 k a0 a1 true))
theorem qd_.xc_ : ∀ k, (∀ y0 y1 y2, LeO (qd_.j0 k y0 y1 y2) (qd_.j0 (k + 1) y0 y1 y2))
 | 0 => fun _ _ _ r h => by simp [qd_.j0] at h
 | k + 1 => by
  have ih0 := qd_.xc_ k
  ·intro y0 y1 y2
   unfold qd_.j0
   repeat' first
   | (with_reducible exact ih0 _ _ _)
   | (with_reducible exact jd_.mono _ _)
   | (with_reducible exact mb_.mono _ _)
   | (with_reducible exact LeO.refl _)
   | (with_reducible exact LeO.none _)
   | (with_reducible refine LeO.ite ?_ ?_)
   | (with_reducible refine LeO.bind ?_ (fun _ => ?_))
   | exact ih0 _ _ _
   | exact jd_.mono _ _
   | exact mb_.mono _ _
   | exact LeO.none _
   | refine LeO.ite ?_ ?_
   | refine LeO.bind ?_ (fun _ => ?_)
theorem qd_.mono : ∀ a0 a1 k, LeO (qd_.f k a0 a1) (qd_.f (k + 1) a0 a1) := by
 intro a0 a1 k
 have ih0 := qd_.xc_ k
 unfold qd_.f
 repeat' first
   | (with_reducible exact ih0 _ _ _)
   | (with_reducible exact jd_.mono _ _)
   | (with_reducible exact mb_.mono _ _)
   | (with_reducible exact LeO.refl _)
   | (with_reducible exact LeO.none _)
   | (with_reducible refine LeO.ite ?_ ?_)
   | (with_reducible refine LeO.bind ?_ (fun _ => ?_))
   | exact ih0 _ _ _
   | exact jd_.mono _ _
   | exact mb_.mono _ _
   | exact LeO.none _
   | refine LeO.ite ?_ ?_
   | refine LeO.bind ?_ (fun _ => ?_)
set_option maxHeartbeats 8000000 in
set_option maxRecDepth 100000 in
theorem qd_.calls (k : Nat) (a0 : Int) (a1 : Int) (r : Int) (w : World) (h : qd_.f k a0 a1 = some r) :
  Calls Try.prog 15 #[.int .i64 a0, .int .i64 a1] w fun e w' => e = .returned (.int .i64 r) ∧ ra_ w w' := by
 have H : ((kd_.f a0).bind fun t103 => (if t103 = true then ((kd_.f a1).bind fun t104 => (if t104 = true then (if a0 = 0 then (qd_.j0 k a0 a1 true) else (qd_.j0 k a0 a1 (a1 == 0))) else (qd_.j0 k a0 a1 true))) else (qd_.j0 k a0 a1 true))) = some r := h
 clear h
 have HC3 := ba_.mk H
 clear H
 go_enter Try.func15, Try.ntmps15
 go_upto_region 1 with (fail)
 go_cut [20] (fun v20 wc => ∃ (kq : Nat) (x20_2 : Bool), v20 = .bool x20_2 ∧ ba_ (qd_.j0 kq a0 a1 x20_2 = some r) ∧ ba_ (kq ≤ k) ∧ ra_ w wc)
 case first =>
  have H := HC3.out
  clear HC3
  replace H := Option.bind_eq_some_iff.mp H
  obtain ⟨t103, A40, H⟩ := H
  replace H : (if t103 = true then ((kd_.f a1).bind fun t104 => (if t104 = true then (if a0 = 0 then (qd_.j0 k a0 a1 true) else (qd_.j0 k a0 a1 (a1 == 0))) else (qd_.j0 k a0 a1 true))) else (qd_.j0 k a0 a1 true)) = some r := H
  have A4 := ba_.mk A40
  clear A40
  by_cases c5 : t103 = true
  ·subst c5
   have H1 : ((kd_.f a1).bind fun t104 => (if t104 = true then (if a0 = 0 then (qd_.j0 k a0 a1 true) else (qd_.j0 k a0 a1 (a1 == 0))) else (qd_.j0 k a0 a1 true))) = some r := by rw [if_pos rfl] at H; exact H
   clear H
   have H := H1
   clear H1
   replace H := Option.bind_eq_some_iff.mp H
   obtain ⟨t104, A60, H⟩ := H
   replace H : (if t104 = true then (if a0 = 0 then (qd_.j0 k a0 a1 true) else (qd_.j0 k a0 a1 (a1 == 0))) else (qd_.j0 k a0 a1 true)) = some r := H
   have A6 := ba_.mk A60
   clear A60
   by_cases c7 : t104 = true
   ·subst c7
    have H1 : (if a0 = 0 then (qd_.j0 k a0 a1 true) else (qd_.j0 k a0 a1 (a1 == 0))) = some r := by rw [if_pos rfl] at H; exact H
    clear H
    have H := H1
    clear H1
    by_cases c8 : a0 = 0
    ·rw [if_pos c8] at H
     have c8b0 : (a0 == 0) = true := beq_iff_eq.mpr c8
     have c8b1 : (a0 != 0) = false := bne_eq_false_iff_eq.mpr c8
     clear c8
     (first | rw [c8b0] | (simp only [gc_, lc_]; rw [c8b0]) | skip)
     have H' := ba_.mk H
     clear H
     go_wp2_with (first | ((with_reducible refine ua_ (f := 38) rfl ?_); refine hc_ (some 6) rfl rfl Try.func38 (by kernel_rfl) rfl #[.int .i64 a0] rfl (by (try simp only [List.map_toArray, List.map_cons, List.map_nil]); first | done | rfl | (simp only [List.length_drop, List.length_take]; rfl)) ?_; (with_reducible refine (kd_.calls a0 true _ A4.out).mono ?_); rintro e w' ⟨rfl, ⟨nd, rfl⟩⟩; refine ⟨_, rfl, ?_⟩) | (go_at_call 38; (with_reducible refine (kd_.calls a1 true _ A6.out).mono ?_); rintro e w' ⟨rfl, ⟨nd, rfl⟩⟩))
     go_meet
     case rel => exact ⟨_, (true), (by first | rfl | (simp; done) | (simp [*]; done)), H', ⟨by first | omega | exact Nat.le_refl _⟩, by repeat (first | exact ra_.refl _ | apply ra_.step)⟩
    ·rw [if_neg c8] at H
     have c8b0 : (a0 == 0) = false := beq_eq_false_iff_ne.mpr c8
     have c8b1 : (a0 != 0) = true := bne_iff_ne.mpr c8
     (first | rw [c8b0] | (simp only [gc_, lc_]; rw [c8b0]) | skip)
     have H' := ba_.mk H
     clear H
     go_wp2_with (first | ((with_reducible refine ua_ (f := 38) rfl ?_); refine hc_ (some 6) rfl rfl Try.func38 (by kernel_rfl) rfl #[.int .i64 a0] rfl (by (try simp only [List.map_toArray, List.map_cons, List.map_nil]); first | done | rfl | (simp only [List.length_drop, List.length_take]; rfl)) ?_; (with_reducible refine (kd_.calls a0 true _ A4.out).mono ?_); rintro e w' ⟨rfl, ⟨nd, rfl⟩⟩; refine ⟨_, rfl, ?_⟩) | (go_at_call 38; (with_reducible refine (kd_.calls a1 true _ A6.out).mono ?_); rintro e w' ⟨rfl, ⟨nd, rfl⟩⟩))
     go_meet
     case rel => exact ⟨_, ((a1 == 0)), (by first | rfl | (simp; done) | (simp [*]; done)), H', ⟨by first | omega | exact Nat.le_refl _⟩, by repeat (first | exact ra_.refl _ | apply ra_.step)⟩
   ·replace c7 := Bool.eq_false_iff.mpr c7
    subst c7
    have H1 : (qd_.j0 k a0 a1 true) = some r := by rw [if_neg (show ¬ (false = true) by decide)] at H; exact H
    clear H
    have H := H1
    clear H1
    have H' := ba_.mk H
    clear H
    go_wp2_with (first | ((with_reducible refine ua_ (f := 38) rfl ?_); refine hc_ (some 6) rfl rfl Try.func38 (by kernel_rfl) rfl #[.int .i64 a0] rfl (by (try simp only [List.map_toArray, List.map_cons, List.map_nil]); first | done | rfl | (simp only [List.length_drop, List.length_take]; rfl)) ?_; (with_reducible refine (kd_.calls a0 true _ A4.out).mono ?_); rintro e w' ⟨rfl, ⟨nd, rfl⟩⟩; refine ⟨_, rfl, ?_⟩) | (go_at_call 38; (with_reducible refine (kd_.calls a1 false _ A6.out).mono ?_); rintro e w' ⟨rfl, ⟨nd, rfl⟩⟩))
    go_meet
    case rel => exact ⟨_, (true), (by first | rfl | (simp; done) | (simp [*]; done)), H', ⟨by first | omega | exact Nat.le_refl _⟩, by repeat (first | exact ra_.refl _ | apply ra_.step)⟩
  ·replace c5 := Bool.eq_false_iff.mpr c5
   subst c5
   have H1 : (qd_.j0 k a0 a1 true) = some r := by rw [if_neg (show ¬ (false = true) by decide)] at H; exact H
   clear H
   have H := H1
   clear H1
   have H' := ba_.mk H
   clear H
   go_wp2_with (first | ((with_reducible refine ua_ (f := 38) rfl ?_); refine hc_ (some 6) rfl rfl Try.func38 (by kernel_rfl) rfl #[.int .i64 a0] rfl (by (try simp only [List.map_toArray, List.map_cons, List.map_nil]); first | done | rfl | (simp only [List.length_drop, List.length_take]; rfl)) ?_; (with_reducible refine (kd_.calls a0 false _ A4.out).mono ?_); rintro e w' ⟨rfl, ⟨nd, rfl⟩⟩; refine ⟨_, rfl, ?_⟩))
   go_meet
   case rel => exact ⟨_, (true), (by first | rfl | (simp; done) | (simp [*]; done)), H', ⟨by first | omega | exact Nat.le_refl _⟩, by repeat (first | exact ra_.refl _ | apply ra_.step)⟩
 case rest =>
  clear HC3
  try clear c1
  try clear p2
  try clear c3
  try clear c5
  try clear c7
  try clear c8
  try clear c8b0
  try clear c8b1
  obtain ⟨kq, x20_2, rfl, HA, HJ2, ⟨mc2, rfl⟩⟩ := hcut
  cases kq with
  | zero => exact absurd HA.out (by simp [qd_.j0])
  | succ kj2 =>
   have H := HA.out
   clear HA
   simp only [qd_.j0] at H
   by_cases c9 : x20_2 = true
   ·subst c9
    have H1 : (some 0) = some r := by rw [if_pos rfl] at H; exact H
    clear H
    have H := H1
    clear H1
    obtain rfl := Option.some.inj H
    go_wp2
    go_ret
    exact ⟨by first | rfl | (simp; done) | (simp [*]; done), by repeat (first | exact ra_.refl _ | apply ra_.step)⟩
   ·replace c9 := Bool.eq_false_iff.mpr c9
    subst c9
    have H1 : ((mb_.f kj2 a0).bind fun t105 => ((mb_.f kj2 a1).bind fun t106 => ((jd_.f kj2 (wrap64 (t105 + t106))).bind fun t107 => (some t107)))) = some r := by rw [if_neg (show ¬ (false = true) by decide)] at H; exact H
    clear H
    have H := H1
    clear H1
    replace H := Option.bind_eq_some_iff.mp H
    obtain ⟨t105, A100, H⟩ := H
    replace H : ((mb_.f kj2 a1).bind fun t106 => ((jd_.f kj2 (wrap64 (t105 + t106))).bind fun t107 => (some t107))) = some r := H
    have A10 := ba_.mk A100
    clear A100
    replace H := Option.bind_eq_some_iff.mp H
    obtain ⟨t106, A110, H⟩ := H
    replace H : ((jd_.f kj2 (wrap64 (t105 + t106))).bind fun t107 => (some t107)) = some r := H
    have A11 := ba_.mk A110
    clear A110
    replace H := Option.bind_eq_some_iff.mp H
    obtain ⟨t107, A120, H⟩ := H
    replace H : (some t107) = some r := H
    have A12 := ba_.mk A120
    clear A120
    obtain rfl := Option.some.inj H
    go_wp2_with (first | ((with_reducible refine ua_ (f := 39) rfl ?_); refine hc_ (some 22) rfl rfl Try.func39 (by kernel_rfl) rfl #[.int .i64 a0] rfl (by (try simp only [List.map_toArray, List.map_cons, List.map_nil]); first | done | rfl | (simp only [List.length_drop, List.length_take]; rfl)) ?_; (with_reducible refine (mb_.calls kj2 a0 t105 _ A10.out).mono ?_); rintro e w' ⟨rfl, ⟨nd, rfl⟩⟩; refine ⟨_, rfl, ?_⟩) | ((with_reducible refine ua_ (f := 39) rfl ?_); refine hc_ (some 24) rfl rfl Try.func39 (by kernel_rfl) rfl #[.int .i64 a1] rfl (by (try simp only [List.map_toArray, List.map_cons, List.map_nil]); first | done | rfl | (simp only [List.length_drop, List.length_take]; rfl)) ?_; (with_reducible refine (mb_.calls kj2 a1 t106 _ A11.out).mono ?_); rintro e w' ⟨rfl, ⟨nd, rfl⟩⟩; refine ⟨_, rfl, ?_⟩) | ((with_reducible refine ua_ (f := 20) rfl ?_); refine hc_ (some 26) rfl rfl Try.func20 (by kernel_rfl) rfl #[.int .i64 (wrap64 (t105 + t106))] rfl (by (try simp only [List.map_toArray, List.map_cons, List.map_nil]); first | done | rfl | (simp only [List.length_drop, List.length_take]; rfl)) ?_; (with_reducible refine (jd_.calls kj2 (wrap64 (t105 + t106)) t107 _ A12.out).mono ?_); rintro e w' ⟨rfl, ⟨nd, rfl⟩⟩; refine ⟨_, rfl, ?_⟩))
    go_ret
    exact ⟨by first | rfl | (simp; done) | (simp [*]; done), by repeat (first | exact ra_.refl _ | apply ra_.step)⟩
def od_.j0 : Nat → Int → Bool → Option (Int)
 | 0, _, _ => none
 | k + 1, x0, x9 => if x9 = true then (some 0) else ((mb_.f k x0).bind fun t109 => ((jd_.f k (wrap64 (-t109))).bind fun t110 => (some t110)))
def od_.f (k : Nat) (a0 : Int) : Option (Int) := (kd_.f a0).bind fun t108 => (if t108 = true then (od_.j0 k a0 (a0 == 0)) else (od_.j0 k a0 true))
theorem od_.xc_ : ∀ k, (∀ y0 y1, LeO (od_.j0 k y0 y1) (od_.j0 (k + 1) y0 y1))
 | 0 => fun _ _ r h => by simp [od_.j0] at h
 | k + 1 => by
  have ih0 := od_.xc_ k
  ·intro y0 y1
   unfold od_.j0
   repeat' first
   | (with_reducible exact ih0 _ _)
   | (with_reducible exact jd_.mono _ _)
   | (with_reducible exact mb_.mono _ _)
   | (with_reducible exact LeO.refl _)
   | (with_reducible exact LeO.none _)
   | (with_reducible refine LeO.ite ?_ ?_)
   | (with_reducible refine LeO.bind ?_ (fun _ => ?_))
   | exact ih0 _ _
   | exact jd_.mono _ _
   | exact mb_.mono _ _
   | exact LeO.none _
   | refine LeO.ite ?_ ?_
   | refine LeO.bind ?_ (fun _ => ?_)
theorem od_.mono : ∀ a0 k, LeO (od_.f k a0) (od_.f (k + 1) a0) := by
 intro a0 k
 have ih0 := od_.xc_ k
 unfold od_.f
 repeat' first
   | (with_reducible exact ih0 _ _)
   | (with_reducible exact jd_.mono _ _)
   | (with_reducible exact mb_.mono _ _)
   | (with_reducible exact LeO.refl _)
   | (with_reducible exact LeO.none _)
   | (with_reducible refine LeO.ite ?_ ?_)
   | (with_reducible refine LeO.bind ?_ (fun _ => ?_))
   | exact ih0 _ _
   | exact jd_.mono _ _
   | exact mb_.mono _ _
   | exact LeO.none _
   | refine LeO.ite ?_ ?_
   | refine LeO.bind ?_ (fun _ => ?_)
set_option maxHeartbeats 8000000 in
set_option maxRecDepth 100000 in
theorem od_.calls (k : Nat) (a0 : Int) (r : Int) (w : World) (h : od_.f k a0 = some r) :
  Calls Try.prog 17 #[.int .i64 a0] w fun e w' => e = .returned (.int .i64 r) ∧ ra_ w w' := by
 have H : ((kd_.f a0).bind fun t108 => (if t108 = true then (od_.j0 k a0 (a0 == 0)) else (od_.j0 k a0 true))) = some r := h
 clear h
 have HC2 := ba_.mk H
 clear H
 go_enter Try.func17, Try.ntmps17
 go_upto_region 1 with (fail)
 go_cut [9] (fun v9 wc => ∃ (kq : Nat) (x9_1 : Bool), v9 = .bool x9_1 ∧ ba_ (od_.j0 kq a0 x9_1 = some r) ∧ ba_ (kq ≤ k) ∧ ra_ w wc)
 case first =>
  have H := HC2.out
  clear HC2
  replace H := Option.bind_eq_some_iff.mp H
  obtain ⟨t108, A30, H⟩ := H
  replace H : (if t108 = true then (od_.j0 k a0 (a0 == 0)) else (od_.j0 k a0 true)) = some r := H
  have A3 := ba_.mk A30
  clear A30
  by_cases c4 : t108 = true
  ·subst c4
   have H1 : (od_.j0 k a0 (a0 == 0)) = some r := by rw [if_pos rfl] at H; exact H
   clear H
   have H := H1
   clear H1
   have H' := ba_.mk H
   clear H
   go_wp2_with (first | ((with_reducible refine ua_ (f := 38) rfl ?_); refine hc_ (some 4) rfl rfl Try.func38 (by kernel_rfl) rfl #[.int .i64 a0] rfl (by (try simp only [List.map_toArray, List.map_cons, List.map_nil]); first | done | rfl | (simp only [List.length_drop, List.length_take]; rfl)) ?_; (with_reducible refine (kd_.calls a0 true _ A3.out).mono ?_); rintro e w' ⟨rfl, ⟨nd, rfl⟩⟩; refine ⟨_, rfl, ?_⟩))
   go_meet
   case rel => exact ⟨_, ((a0 == 0)), (by first | rfl | (simp; done) | (simp [*]; done)), H', ⟨by first | omega | exact Nat.le_refl _⟩, by repeat (first | exact ra_.refl _ | apply ra_.step)⟩
  ·replace c4 := Bool.eq_false_iff.mpr c4
   subst c4
   have H1 : (od_.j0 k a0 true) = some r := by rw [if_neg (show ¬ (false = true) by decide)] at H; exact H
   clear H
   have H := H1
   clear H1
   have H' := ba_.mk H
   clear H
   go_wp2_with (first | ((with_reducible refine ua_ (f := 38) rfl ?_); refine hc_ (some 4) rfl rfl Try.func38 (by kernel_rfl) rfl #[.int .i64 a0] rfl (by (try simp only [List.map_toArray, List.map_cons, List.map_nil]); first | done | rfl | (simp only [List.length_drop, List.length_take]; rfl)) ?_; (with_reducible refine (kd_.calls a0 false _ A3.out).mono ?_); rintro e w' ⟨rfl, ⟨nd, rfl⟩⟩; refine ⟨_, rfl, ?_⟩))
   go_meet
   case rel => exact ⟨_, (true), (by first | rfl | (simp; done) | (simp [*]; done)), H', ⟨by first | omega | exact Nat.le_refl _⟩, by repeat (first | exact ra_.refl _ | apply ra_.step)⟩
 case rest =>
  clear HC2
  try clear c1
  try clear p2
  try clear c3
  try clear c4
  obtain ⟨kq, x9_1, rfl, HA, HJ1, ⟨mc1, rfl⟩⟩ := hcut
  cases kq with
  | zero => exact absurd HA.out (by simp [od_.j0])
  | succ kj1 =>
   have H := HA.out
   clear HA
   simp only [od_.j0] at H
   by_cases c5 : x9_1 = true
   ·subst c5
    have H1 : (some 0) = some r := by rw [if_pos rfl] at H; exact H
    clear H
    have H := H1
    clear H1
    obtain rfl := Option.some.inj H
    go_wp2
    go_ret
    exact ⟨by first | rfl | (simp; done) | (simp [*]; done), by repeat (first | exact ra_.refl _ | apply ra_.step)⟩
   ·replace c5 := Bool.eq_false_iff.mpr c5
    subst c5
    have H1 : ((mb_.f kj1 a0).bind fun t109 => ((jd_.f kj1 (wrap64 (-t109))).bind fun t110 => (some t110))) = some r := by rw [if_neg (show ¬ (false = true) by decide)] at H; exact H
    clear H
    have H := H1
    clear H1
    replace H := Option.bind_eq_some_iff.mp H
    obtain ⟨t109, A60, H⟩ := H
    replace H : ((jd_.f kj1 (wrap64 (-t109))).bind fun t110 => (some t110)) = some r := H
    have A6 := ba_.mk A60
    clear A60
    replace H := Option.bind_eq_some_iff.mp H
    obtain ⟨t110, A70, H⟩ := H
    replace H : (some t110) = some r := H
    have A7 := ba_.mk A70
    clear A70
    obtain rfl := Option.some.inj H
    go_wp2_with (first | ((with_reducible refine ua_ (f := 39) rfl ?_); refine hc_ (some 11) rfl rfl Try.func39 (by kernel_rfl) rfl #[.int .i64 a0] rfl (by (try simp only [List.map_toArray, List.map_cons, List.map_nil]); first | done | rfl | (simp only [List.length_drop, List.length_take]; rfl)) ?_; (with_reducible refine (mb_.calls kj1 a0 t109 _ A6.out).mono ?_); rintro e w' ⟨rfl, ⟨nd, rfl⟩⟩; refine ⟨_, rfl, ?_⟩) | ((with_reducible refine ua_ (f := 20) rfl ?_); refine hc_ (some 13) rfl rfl Try.func20 (by kernel_rfl) rfl #[.int .i64 (wrap64 (-t109))] rfl (by (try simp only [List.map_toArray, List.map_cons, List.map_nil]); first | done | rfl | (simp only [List.length_drop, List.length_take]; rfl)) ?_; (with_reducible refine (jd_.calls kj1 (wrap64 (-t109)) t110 _ A7.out).mono ?_); rintro e w' ⟨rfl, ⟨nd, rfl⟩⟩; refine ⟨_, rfl, ?_⟩))
    go_ret
    exact ⟨by first | rfl | (simp; done) | (simp [*]; done), by repeat (first | exact ra_.refl _ | apply ra_.step)⟩
def yj_.f (a0 : Int) (a1 : Int) : Option (Int) := some (Go.bits .xor .i64 a0 a1)
set_option maxHeartbeats 8000000 in
set_option maxRecDepth 100000 in
theorem yj_.calls (a0 : Int) (a1 : Int) (r : Int) (w : World) (h : yj_.f a0 a1 = some r) :
  Calls Try.prog 65 #[.int .i64 a0, .int .i64 a1] w fun e w' => e = .returned (.int .i64 r) ∧ ra_ w w' := by
 have H : (some (Go.bits .xor .i64 a0 a1)) = some r := h
 clear h
 obtain rfl := Option.some.inj H
 go_enter Try.func65, Try.ntmps65
 go_wp2
 go_ret
 exact ⟨by first | rfl | (simp; done) | (simp [*]; done), by repeat (first | exact ra_.refl _ | apply ra_.step)⟩
def sf_.f (k : Nat) (a0 : Int) (a1 : Int) : Option (Int) := (qd_.f k a0 a1).bind fun t111 => (some t111)
theorem sf_.mono : ∀ a0 a1 k, LeO (sf_.f k a0 a1) (sf_.f (k + 1) a0 a1) := by
 intro a0 a1 k
 unfold sf_.f
 repeat' first
   | (with_reducible exact qd_.mono _ _ _)
   | (with_reducible exact LeO.refl _)
   | (with_reducible exact LeO.none _)
   | (with_reducible refine LeO.ite ?_ ?_)
   | (with_reducible refine LeO.bind ?_ (fun _ => ?_))
   | exact qd_.mono _ _ _
   | exact LeO.none _
   | refine LeO.ite ?_ ?_
   | refine LeO.bind ?_ (fun _ => ?_)
set_option maxHeartbeats 8000000 in
set_option maxRecDepth 100000 in
theorem sf_.calls (k : Nat) (a0 : Int) (a1 : Int) (r : Int) (w : World) (h : sf_.f k a0 a1 = some r) :
  Calls Try.prog 66 #[.int .i64 a0, .int .i64 a1] w fun e w' => e = .returned (.int .i64 r) ∧ ra_ w w' := by
 have H : ((qd_.f k a0 a1).bind fun t111 => (some t111)) = some r := h
 clear h
 replace H := Option.bind_eq_some_iff.mp H
 obtain ⟨t111, A30, H⟩ := H
 replace H : (some t111) = some r := H
 have A3 := ba_.mk A30
 clear A30
 obtain rfl := Option.some.inj H
 go_enter Try.func66, Try.ntmps66
 go_wp2_with (first | ((with_reducible refine ua_ (f := 15) rfl ?_); refine hc_ (some 7) rfl rfl Try.func15 (by kernel_rfl) rfl #[.int .i64 a0, .int .i64 a1] rfl (by (try simp only [List.map_toArray, List.map_cons, List.map_nil]); first | done | rfl | (simp only [List.length_drop, List.length_take]; rfl)) ?_; (with_reducible refine (qd_.calls k a0 a1 t111 _ A3.out).mono ?_); rintro e w' ⟨rfl, ⟨nd, rfl⟩⟩; refine ⟨_, rfl, ?_⟩))
 go_ret
 exact ⟨by first | rfl | (simp; done) | (simp [*]; done), by repeat (first | exact ra_.refl _ | apply ra_.step)⟩
def lf_.f (k : Nat) (a0 : Int) : Option (Int) := (od_.f k a0).bind fun t112 => (some t112)
theorem lf_.mono : ∀ a0 k, LeO (lf_.f k a0) (lf_.f (k + 1) a0) := by
 intro a0 k
 unfold lf_.f
 repeat' first
   | (with_reducible exact od_.mono _ _)
   | (with_reducible exact LeO.refl _)
   | (with_reducible exact LeO.none _)
   | (with_reducible refine LeO.ite ?_ ?_)
   | (with_reducible refine LeO.bind ?_ (fun _ => ?_))
   | exact od_.mono _ _
   | exact LeO.none _
   | refine LeO.ite ?_ ?_
   | refine LeO.bind ?_ (fun _ => ?_)
set_option maxHeartbeats 8000000 in
set_option maxRecDepth 100000 in
theorem lf_.calls (k : Nat) (a0 : Int) (r : Int) (w : World) (h : lf_.f k a0 = some r) :
  Calls Try.prog 86 #[.int .i64 a0] w fun e w' => e = .returned (.int .i64 r) ∧ ra_ w w' := by
 have H : ((od_.f k a0).bind fun t112 => (some t112)) = some r := h
 clear h
 replace H := Option.bind_eq_some_iff.mp H
 obtain ⟨t112, A20, H⟩ := H
 replace H : (some t112) = some r := H
 have A2 := ba_.mk A20
 clear A20
 obtain rfl := Option.some.inj H
 go_enter Try.func86, Try.ntmps86
 go_wp2_with (first | ((with_reducible refine ua_ (f := 17) rfl ?_); refine hc_ (some 4) rfl rfl Try.func17 (by kernel_rfl) rfl #[.int .i64 a0] rfl (by (try simp only [List.map_toArray, List.map_cons, List.map_nil]); first | done | rfl | (simp only [List.length_drop, List.length_take]; rfl)) ?_; (with_reducible refine (od_.calls k a0 t112 _ A2.out).mono ?_); rintro e w' ⟨rfl, ⟨nd, rfl⟩⟩; refine ⟨_, rfl, ?_⟩))
 go_ret
 exact ⟨by first | rfl | (simp; done) | (simp [*]; done), by repeat (first | exact ra_.refl _ | apply ra_.step)⟩
def fj_.f (k : Nat) (l0 : List Int) (a1 : Int) (a2 : Int) : Option (Int) := (jd_.f k (wrap64 (a2 * (wrap64 ((wrap64 ((l0.length : Int) - 1)) - a1))))).bind fun t113 => (some t113)
theorem fj_.mono : ∀ a0 a1 a2 k, LeO (fj_.f k a0 a1 a2) (fj_.f (k + 1) a0 a1 a2) := by
 intro a0 a1 a2 k
 unfold fj_.f
 repeat' first
   | (with_reducible exact jd_.mono _ _)
   | (with_reducible exact LeO.refl _)
   | (with_reducible exact LeO.none _)
   | (with_reducible refine LeO.ite ?_ ?_)
   | (with_reducible refine LeO.bind ?_ (fun _ => ?_))
   | exact jd_.mono _ _
   | exact LeO.none _
   | refine LeO.ite ?_ ?_
   | refine LeO.bind ?_ (fun _ => ?_)
set_option maxHeartbeats 8000000 in
set_option maxRecDepth 100000 in
theorem fj_.calls (k : Nat) (A0 : Option Addr) (c0 : Nat) (l0 : List Int) (a1 : Int) (a2 : Int) (r : Int) (w : World) (hr0 : Kd.C (Kd.int .i64) w A0 l0.length l0) (hc0 : l0.length ≤ c0) (h : fj_.f k l0 a1 a2 = some r) :
  Calls Try.prog 62 #[.slice A0 l0.length c0, .int .i64 a1, .int .i64 a2] w fun e w' => e = .returned (.int .i64 r) ∧ ra_ w w' := by
 have HR0 := ba_.mk hr0
 have HC0 := ba_.mk hc0
 clear hr0 hc0
 have H : ((jd_.f k (wrap64 (a2 * (wrap64 ((wrap64 ((l0.length : Int) - 1)) - a1))))).bind fun t113 => (some t113)) = some r := h
 clear h
 replace H := Option.bind_eq_some_iff.mp H
 obtain ⟨t113, A40, H⟩ := H
 replace H : (some t113) = some r := H
 have A4 := ba_.mk A40
 clear A40
 obtain rfl := Option.some.inj H
 go_enter Try.func62, Try.ntmps62
 go_wp2_with (first | ((with_reducible refine ua_ (f := 20) rfl ?_); refine hc_ (some 14) rfl rfl Try.func20 (by kernel_rfl) rfl #[.int .i64 (wrap64 (a2 * (wrap64 ((wrap64 ((l0.length : Int) - 1)) - a1))))] rfl (by (try simp only [List.map_toArray, List.map_cons, List.map_nil]); first | done | rfl | (simp only [List.length_drop, List.length_take]; rfl)) ?_; (with_reducible refine (jd_.calls k (wrap64 (a2 * (wrap64 ((wrap64 ((l0.length : Int) - 1)) - a1)))) t113 _ A4.out).mono ?_); rintro e w' ⟨rfl, ⟨nd, rfl⟩⟩; refine ⟨_, rfl, ?_⟩))
 go_ret
 exact ⟨by first | rfl | (simp; done) | (simp [*]; done), by repeat (first | exact ra_.refl _ | apply ra_.step)⟩
def mc_.f (a0 : Int) : Option (Bool) := if a0 ≥ 0 then (some (decide (a0 < 32))) else (some false)
set_option maxHeartbeats 8000000 in
set_option maxRecDepth 100000 in
theorem mc_.calls (a0 : Int) (r : Bool) (w : World) (h : mc_.f a0 = some r) :
  Calls Try.prog 40 #[.int .i64 a0] w fun e w' => e = .returned (.bool r) ∧ ra_ w w' := by
 have H : (if a0 ≥ 0 then (some (decide (a0 < 32))) else (some false)) = some r := h
 clear h
 by_cases c2 : a0 ≥ 0
 ·rw [if_pos c2] at H
  have c2b0 : decide (0 ≤ a0) = true := decide_eq_true c2
  clear c2
  obtain rfl := Option.some.inj H
  go_enter Try.func40, Try.ntmps40
  go_wp2
  go_ret
  exact ⟨by first | rfl | (simp; done) | (simp [*]; done), by repeat (first | exact ra_.refl _ | apply ra_.step)⟩
 ·rw [if_neg c2] at H
  have c2b0 : decide (0 ≤ a0) = false := decide_eq_false c2
  clear c2
  obtain rfl := Option.some.inj H
  go_enter Try.func40, Try.ntmps40
  go_wp2
  go_ret
  exact ⟨by first | rfl | (simp; done) | (simp [*]; done), by repeat (first | exact ra_.refl _ | apply ra_.step)⟩
end Go.Proofs.Ytpkhgapifnjbeaa.B
end
section
namespace Go.Proofs.Ytpkhgapifnjbeaa.B
open Go.RowKit Go.Proofs.YtpkhgapifnjbeaaW.PrintWords Go.Proofs.YtpkhgapifnjbeaaW.PrintLast Go.Proofs.YtpkhgapifnjbeaaW.PrintMore
attribute [local go_sem] dd_ fd_ rd_ sd_ uc_ vc_ ed_ gd_
set_option linter.unusedVariables false
set_option linter.unusedSimpArgs false
mutual
def db_.j0 : Nat → Int → Int → Bool → Option (Int)
 | 0, _, _, _ => none
 | k + 1, x0, x1, x15 => if x15 = true then (some 0) else (db_.l0 k x0 x1 0 0)
def db_.l0 : Nat → Int → Int → Int → Int → Option (Int)
 | 0, _, _, _, _ => none
 | k + 1, x0, x1, x5, x6 => if x6 < 5 then (if 0 ≤ (IntKind.u64.wrap (x6)) then (if (Go.bits .and .i64 (shr .i64 x1 (IntKind.u64.wrap (x6))) 1) = 1 then (db_.l0 k x0 x1 (Go.bits .xor .i64 x5 (shl .i64 x0 (IntKind.u64.wrap (x6)))) (wrap64 (x6 + 1))) else (db_.l0 k x0 x1 x5 (wrap64 (x6 + 1)))) else (none)) else (db_.l1 k x5 8)
def db_.l1 : Nat → Int → Int → Option (Int)
 | 0, _, _ => none
 | k + 1, x5, x7 => if x7 ≥ 5 then (if 0 ≤ (IntKind.u64.wrap (x7)) then (if (Go.bits .and .i64 (shr .i64 x5 (IntKind.u64.wrap (x7))) 1) = 1 then (if 0 ≤ (IntKind.u64.wrap (wrap64 (x7 - 5))) then (db_.l1 k (Go.bits .xor .i64 x5 (shl .i64 37 (IntKind.u64.wrap (wrap64 (x7 - 5))))) (wrap64 (x7 - 1))) else (none)) else (db_.l1 k x5 (wrap64 (x7 - 1)))) else (none)) else (some x5)
end
def db_.f (k : Nat) (a0 : Int) (a1 : Int) : Option (Int) := (mc_.f a0).bind fun t114 => (if t114 = true then ((mc_.f a1).bind fun t115 => (db_.j0 k a0 a1 (!t115))) else (db_.j0 k a0 a1 true))
theorem db_.xc_ : ∀ k, (∀ y0 y1 y2, LeO (db_.j0 k y0 y1 y2) (db_.j0 (k + 1) y0 y1 y2)) ∧ (∀ y0 y1 y2 y3, LeO (db_.l0 k y0 y1 y2 y3) (db_.l0 (k + 1) y0 y1 y2 y3)) ∧ (∀ y0 y1, LeO (db_.l1 k y0 y1) (db_.l1 (k + 1) y0 y1))
 | 0 => ⟨fun _ _ _ r h => by simp [db_.j0] at h, fun _ _ _ _ r h => by simp [db_.l0] at h, fun _ _ r h => by simp [db_.l1] at h⟩
 | k + 1 => by
  obtain ⟨ih0, ih1, ih2⟩ := db_.xc_ k
  refine ⟨?_, ?_, ?_⟩
  ·intro y0 y1 y2
   unfold db_.j0
   repeat' first
   | (with_reducible exact ih0 _ _ _)
   | (with_reducible exact ih1 _ _ _ _)
   | (with_reducible exact ih2 _ _)
   | (with_reducible exact LeO.refl _)
   | (with_reducible exact LeO.none _)
   | (with_reducible refine LeO.ite ?_ ?_)
   | (with_reducible refine LeO.bind ?_ (fun _ => ?_))
   | exact ih0 _ _ _
   | exact ih1 _ _ _ _
   | exact ih2 _ _
   | exact LeO.none _
   | refine LeO.ite ?_ ?_
   | refine LeO.bind ?_ (fun _ => ?_)
  ·intro y0 y1 y2 y3
   unfold db_.l0
   repeat' first
   | (with_reducible exact ih0 _ _ _)
   | (with_reducible exact ih1 _ _ _ _)
   | (with_reducible exact ih2 _ _)
   | (with_reducible exact LeO.refl _)
   | (with_reducible exact LeO.none _)
   | (with_reducible refine LeO.ite ?_ ?_)
   | (with_reducible refine LeO.bind ?_ (fun _ => ?_))
   | exact ih0 _ _ _
   | exact ih1 _ _ _ _
   | exact ih2 _ _
   | exact LeO.none _
   | refine LeO.ite ?_ ?_
   | refine LeO.bind ?_ (fun _ => ?_)
  ·intro y0 y1
   unfold db_.l1
   repeat' first
   | (with_reducible exact ih0 _ _ _)
   | (with_reducible exact ih1 _ _ _ _)
   | (with_reducible exact ih2 _ _)
   | (with_reducible exact LeO.refl _)
   | (with_reducible exact LeO.none _)
   | (with_reducible refine LeO.ite ?_ ?_)
   | (with_reducible refine LeO.bind ?_ (fun _ => ?_))
   | exact ih0 _ _ _
   | exact ih1 _ _ _ _
   | exact ih2 _ _
   | exact LeO.none _
   | refine LeO.ite ?_ ?_
   | refine LeO.bind ?_ (fun _ => ?_)
theorem db_.mono : ∀ a0 a1 k, LeO (db_.f k a0 a1) (db_.f (k + 1) a0 a1) := by
 intro a0 a1 k
 obtain ⟨ih0, ih1, ih2⟩ := db_.xc_ k
 unfold db_.f
 repeat' first
   | (with_reducible exact ih0 _ _ _)
   | (with_reducible exact ih1 _ _ _ _)
   | (with_reducible exact ih2 _ _)
   | (with_reducible exact LeO.refl _)
   | (with_reducible exact LeO.none _)
   | (with_reducible refine LeO.ite ?_ ?_)
   | (with_reducible refine LeO.bind ?_ (fun _ => ?_))
   | exact ih0 _ _ _
   | exact ih1 _ _ _ _
   | exact ih2 _ _
   | exact LeO.none _
   | refine LeO.ite ?_ ?_
   | refine LeO.bind ?_ (fun _ => ?_)
set_option maxHeartbeats 8000000 in
set_option maxRecDepth 100000 in
theorem db_.calls (k : Nat) (a0 : Int) (a1 : Int) (r : Int) (w : World) (h : db_.f k a0 a1 = some r) :
  Calls Try.prog 16 #[.int .i64 a0, .int .i64 a1] w fun e w' => e = .returned (.int .i64 r) ∧ ra_ w w' := by
 have H : ((mc_.f a0).bind fun t114 => (if t114 = true then ((mc_.f a1).bind fun t115 => (db_.j0 k a0 a1 (!t115))) else (db_.j0 k a0 a1 true))) = some r := h
 clear h
 have HC3 := ba_.mk H
 clear H
 go_enter Try.func16, Try.ntmps16
 go_upto_region 1 with (fail)
 go_cut [15] (fun v15 wc => ∃ (kq : Nat) (x15_2 : Bool), v15 = .bool x15_2 ∧ ba_ (db_.j0 kq a0 a1 x15_2 = some r) ∧ ba_ (kq ≤ k) ∧ ra_ w wc)
 case first =>
  have H := HC3.out
  clear HC3
  replace H := Option.bind_eq_some_iff.mp H
  obtain ⟨t114, A40, H⟩ := H
  replace H : (if t114 = true then ((mc_.f a1).bind fun t115 => (db_.j0 k a0 a1 (!t115))) else (db_.j0 k a0 a1 true)) = some r := H
  have A4 := ba_.mk A40
  clear A40
  by_cases c5 : t114 = true
  ·subst c5
   have H1 : ((mc_.f a1).bind fun t115 => (db_.j0 k a0 a1 (!t115))) = some r := by rw [if_pos rfl] at H; exact H
   clear H
   have H := H1
   clear H1
   replace H := Option.bind_eq_some_iff.mp H
   obtain ⟨t115, A60, H⟩ := H
   replace H : (db_.j0 k a0 a1 (!t115)) = some r := H
   have A6 := ba_.mk A60
   clear A60
   have H' := ba_.mk H
   clear H
   go_wp2_with (first | ((with_reducible refine ua_ (f := 40) rfl ?_); refine hc_ (some 9) rfl rfl Try.func40 (by kernel_rfl) rfl #[.int .i64 a0] rfl (by (try simp only [List.map_toArray, List.map_cons, List.map_nil]); first | done | rfl | (simp only [List.length_drop, List.length_take]; rfl)) ?_; (with_reducible refine (mc_.calls a0 true _ A4.out).mono ?_); rintro e w' ⟨rfl, ⟨nd, rfl⟩⟩; refine ⟨_, rfl, ?_⟩) | (go_at_call 40; (with_reducible refine (mc_.calls a1 t115 _ A6.out).mono ?_); rintro e w' ⟨rfl, ⟨nd, rfl⟩⟩))
   go_meet
   case rel => exact ⟨_, (!t115), (by first | rfl | (simp; done) | (simp [*]; done)), H', ⟨by first | omega | exact Nat.le_refl _⟩, by repeat (first | exact ra_.refl _ | apply ra_.step)⟩
  ·replace c5 := Bool.eq_false_iff.mpr c5
   subst c5
   have H1 : (db_.j0 k a0 a1 true) = some r := by rw [if_neg (show ¬ (false = true) by decide)] at H; exact H
   clear H
   have H := H1
   clear H1
   have H' := ba_.mk H
   clear H
   go_wp2_with (first | ((with_reducible refine ua_ (f := 40) rfl ?_); refine hc_ (some 9) rfl rfl Try.func40 (by kernel_rfl) rfl #[.int .i64 a0] rfl (by (try simp only [List.map_toArray, List.map_cons, List.map_nil]); first | done | rfl | (simp only [List.length_drop, List.length_take]; rfl)) ?_; (with_reducible refine (mc_.calls a0 false _ A4.out).mono ?_); rintro e w' ⟨rfl, ⟨nd, rfl⟩⟩; refine ⟨_, rfl, ?_⟩))
   go_meet
   case rel => exact ⟨_, (true), (by first | rfl | (simp; done) | (simp [*]; done)), H', ⟨by first | omega | exact Nat.le_refl _⟩, by repeat (first | exact ra_.refl _ | apply ra_.step)⟩
 case rest =>
  clear HC3
  try clear c1
  try clear p2
  try clear c4
  try clear c5
  obtain ⟨kq, x15_2, rfl, HA, HJ2, ⟨mc2, rfl⟩⟩ := hcut
  cases kq with
  | zero => exact absurd HA.out (by simp [db_.j0])
  | succ kj2 =>
   have H := HA.out
   clear HA
   simp only [db_.j0] at H
   by_cases c7 : x15_2 = true
   ·subst c7
    have H1 : (some 0) = some r := by rw [if_pos rfl] at H; exact H
    clear H
    have H := H1
    clear H1
    obtain rfl := Option.some.inj H
    go_wp2
    go_ret
    exact ⟨by first | rfl | (simp; done) | (simp [*]; done), by repeat (first | exact ra_.refl _ | apply ra_.step)⟩
   ·replace c7 := Bool.eq_false_iff.mpr c7
    subst c7
    have H1 : (db_.l0 kj2 a0 a1 0 0) = some r := by rw [if_neg (show ¬ (false = true) by decide)] at H; exact H
    clear H
    have H := H1
    clear H1
    have H' := ba_.mk H
    clear H
    go_wp2
    go_loopg [5, 6] kj2 (fun kq v5 v6 w' => ∃ (x5_2 : Int) (x6_2 : Int), v5 = .int .i64 x5_2 ∧ v6 = .int .i64 x6_2 ∧ ba_ (db_.l0 kq a0 a1 x5_2 x6_2 = some r) ∧ ba_ (kq ≤ kj2) ∧ ra_ w w')
    case atStart => exact ⟨(0), (0), (by first | rfl | (simp; done) | (simp [*]; done)), (by first | rfl | (simp; done) | (simp [*]; done)), H', ⟨Nat.le_refl _⟩, by repeat (first | exact ra_.refl _ | apply ra_.step)⟩
    case round =>
     clear H'
     try clear c1
     try clear c2
     try clear p2
     try clear c4
     try clear c5
     try clear c7
     try clear p2
     obtain ⟨x5_2, x6_2, rfl, rfl, HA, HK2, ⟨m2, rfl⟩⟩ := hrel
     cases gk with
     | zero => exact absurd HA.out (by simp [db_.l0])
     | succ k2 =>
      have H := HA.out
      clear HA
      simp only [db_.l0] at H
      by_cases c8 : x6_2 < 5
      ·rw [if_pos c8] at H
       have c8b0 : decide (x6_2 < 5) = true := decide_eq_true c8
       clear c8
       obtain ⟨ji9, hji9⟩ : ∃ j_ : Int, (IntKind.u64.wrap (x6_2)) = j_ := ⟨_, rfl⟩
       replace H : (if 0 ≤ (ji9) then (if (Go.bits .and .i64 (shr .i64 a1 (ji9)) 1) = 1 then (db_.l0 k2 a0 a1 (Go.bits .xor .i64 x5_2 (shl .i64 a0 (ji9))) (wrap64 (x6_2 + 1))) else (db_.l0 k2 a0 a1 x5_2 (wrap64 (x6_2 + 1)))) else (none)) = some r := by first | (rw [hji9] at H; exact H) | (simp only [hji9] at H ⊢; exact H)
       by_cases c10 : 0 ≤ (ji9)
       ·rw [if_pos c10] at H
        have c10b0 := eq_true c10
        have c10b1 : decide (0 ≤ (ji9)) = true := decide_eq_true c10
        clear c10
        obtain ⟨ji11, hji11⟩ : ∃ j_ : Int, (shr .i64 a1 (ji9)) = j_ := ⟨_, rfl⟩
        replace H : (if (Go.bits .and .i64 (ji11) 1) = 1 then (db_.l0 k2 a0 a1 (Go.bits .xor .i64 x5_2 (shl .i64 a0 (ji9))) (wrap64 (x6_2 + 1))) else (db_.l0 k2 a0 a1 x5_2 (wrap64 (x6_2 + 1)))) = some r := by first | (rw [hji11] at H; exact H) | (simp only [hji11] at H ⊢; exact H)
        have hji11_ : (a1 / 2 ^ min (ji9).toNat 64) = ji11 := hji11
        have hji11z : (ji9) ≤ 64 → (a1 / 2 ^ (ji9).toNat) = ji11 := zt_ hji11
        by_cases c12 : (Go.bits .and .i64 (ji11) 1) = 1
        ·rw [if_pos c12] at H
         have c12b0 : ((Go.bits .and .i64 (ji11) 1) == 1) = true := beq_iff_eq.mpr c12
         have c12b1 : ((Go.bits .and .i64 (ji11) 1) != 1) = false := bne_eq_false_iff_eq.mpr c12
         clear c12
         have c13b0 := eq_true (of_decide_eq_true (by first | (with_reducible assumption) | assumption) : 0 ≤ (ji9))
         obtain ⟨ji14, hji14⟩ : ∃ j_ : Int, (shl .i64 a0 (ji9)) = j_ := ⟨_, rfl⟩
         replace H : (db_.l0 k2 a0 a1 (Go.bits .xor .i64 x5_2 (ji14)) (wrap64 (x6_2 + 1))) = some r := by first | (rw [hji14] at H; exact H) | (simp only [hji14] at H ⊢; exact H)
         have hji14_ : (IntKind.i64.wrap (a0 * 2 ^ min (ji9).toNat 64)) = ji14 := hji14
         have hji14z : (ji9) ≤ 64 → (IntKind.i64.wrap (a0 * 2 ^ (ji9).toNat)) = ji14 := yt_ hji14
         have hji14y : (wrap64 (a0 * 2 ^ min (ji9).toNat 64)) = ji14 := (gc_ _).symm.trans hji14_
         have hji14x : (ji9) ≤ 64 → (wrap64 (a0 * 2 ^ (ji9).toNat)) = ji14 := fun h_ => (gc_ _).symm.trans (hji14z h_)
         have H' := ba_.mk H
         clear H
         go_wp2
         go_roundg k2
         case measure => have := HJ2.out; have := HK2.out; omega
         case rel => exact ⟨(Go.bits .xor .i64 x5_2 (ji14)), (wrap64 (x6_2 + 1)), (by first | rfl | (simp; done) | (simp only [← hji14] <;> (first | rfl | simp)) | (simp [*]; done)), (by first | rfl | (simp; done) | (simp [*]; done)), H', ⟨by have := HJ2.out; have := HK2.out; omega⟩, by repeat (first | exact ra_.refl _ | apply ra_.step)⟩
        ·rw [if_neg c12] at H
         have c12b0 : ((Go.bits .and .i64 (ji11) 1) == 1) = false := beq_eq_false_iff_ne.mpr c12
         have c12b1 : ((Go.bits .and .i64 (ji11) 1) != 1) = true := bne_iff_ne.mpr c12
         have H' := ba_.mk H
         clear H
         go_wp2
         go_roundg k2
         case measure => have := HJ2.out; have := HK2.out; omega
         case rel => exact ⟨(x5_2), (wrap64 (x6_2 + 1)), (by first | rfl | (simp; done) | (simp [*]; done)), (by first | rfl | (simp; done) | (simp [*]; done)), H', ⟨by have := HJ2.out; have := HK2.out; omega⟩, by repeat (first | exact ra_.refl _ | apply ra_.step)⟩
       ·rw [if_neg c10] at H
        exact absurd H (by simp)
      ·rw [if_neg c8] at H
       have c8b0 : decide (x6_2 < 5) = false := decide_eq_false c8
       clear c8
       have H' := ba_.mk H
       clear H
       go_wp2
       go_loopg [5, 7] k2 (fun kq v5 v7 w' => ∃ (x5_3 : Int) (x7_3 : Int), v5 = .int .i64 x5_3 ∧ v7 = .int .i64 x7_3 ∧ ba_ (db_.l1 kq x5_3 x7_3 = some r) ∧ ba_ (kq ≤ k2) ∧ ra_ w w')
       case atStart => exact ⟨(x5_2), (8), (by first | rfl | (simp; done) | (simp [*]; done)), (by first | rfl | (simp; done) | (simp [*]; done)), H', ⟨Nat.le_refl _⟩, by repeat (first | exact ra_.refl _ | apply ra_.step)⟩
       case round =>
        clear H'
        try clear c1
        try clear c2
        try clear p2
        try clear c4
        try clear c5
        try clear p6
        try clear c7
        try clear c8
        try clear c8b0
        try clear c10
        try clear c10b0
        try clear c10b1
        try clear c12
        try clear c12b0
        try clear c12b1
        try clear c13
        try clear c13b0
        try clear p2
        obtain ⟨x5_3, x7_3, rfl, rfl, HA, HK3, ⟨m3, rfl⟩⟩ := hrel
        cases gk with
        | zero => exact absurd HA.out (by simp [db_.l1])
        | succ k3 =>
         have H := HA.out
         clear HA
         simp only [db_.l1] at H
         by_cases c15 : x7_3 ≥ 5
         ·rw [if_pos c15] at H
          have c15b0 : decide (5 ≤ x7_3) = true := decide_eq_true c15
          clear c15
          obtain ⟨ji16, hji16⟩ : ∃ j_ : Int, (IntKind.u64.wrap (x7_3)) = j_ := ⟨_, rfl⟩
          replace H : (if 0 ≤ (ji16) then (if (Go.bits .and .i64 (shr .i64 x5_3 (ji16)) 1) = 1 then (if 0 ≤ (IntKind.u64.wrap (wrap64 (x7_3 - 5))) then (db_.l1 k3 (Go.bits .xor .i64 x5_3 (shl .i64 37 (IntKind.u64.wrap (wrap64 (x7_3 - 5))))) (wrap64 (x7_3 - 1))) else (none)) else (db_.l1 k3 x5_3 (wrap64 (x7_3 - 1)))) else (none)) = some r := by first | (rw [hji16] at H; exact H) | (simp only [hji16] at H ⊢; exact H)
          by_cases c17 : 0 ≤ (ji16)
          ·rw [if_pos c17] at H
           have c17b0 := eq_true c17
           have c17b1 : decide (0 ≤ (ji16)) = true := decide_eq_true c17
           clear c17
           obtain ⟨ji18, hji18⟩ : ∃ j_ : Int, (shr .i64 x5_3 (ji16)) = j_ := ⟨_, rfl⟩
           replace H : (if (Go.bits .and .i64 (ji18) 1) = 1 then (if 0 ≤ (IntKind.u64.wrap (wrap64 (x7_3 - 5))) then (db_.l1 k3 (Go.bits .xor .i64 x5_3 (shl .i64 37 (IntKind.u64.wrap (wrap64 (x7_3 - 5))))) (wrap64 (x7_3 - 1))) else (none)) else (db_.l1 k3 x5_3 (wrap64 (x7_3 - 1)))) = some r := by first | (rw [hji18] at H; exact H) | (simp only [hji18] at H ⊢; exact H)
           have hji18_ : (x5_3 / 2 ^ min (ji16).toNat 64) = ji18 := hji18
           have hji18z : (ji16) ≤ 64 → (x5_3 / 2 ^ (ji16).toNat) = ji18 := zt_ hji18
           by_cases c19 : (Go.bits .and .i64 (ji18) 1) = 1
           ·rw [if_pos c19] at H
            have c19b0 : ((Go.bits .and .i64 (ji18) 1) == 1) = true := beq_iff_eq.mpr c19
            have c19b1 : ((Go.bits .and .i64 (ji18) 1) != 1) = false := bne_eq_false_iff_eq.mpr c19
            clear c19
            obtain ⟨ji20, hji20⟩ : ∃ j_ : Int, (IntKind.u64.wrap (wrap64 (x7_3 - 5))) = j_ := ⟨_, rfl⟩
            replace H : (if 0 ≤ (ji20) then (db_.l1 k3 (Go.bits .xor .i64 x5_3 (shl .i64 37 (ji20))) (wrap64 (x7_3 - 1))) else (none)) = some r := by first | (rw [hji20] at H; exact H) | (simp only [hji20] at H ⊢; exact H)
            by_cases c21 : 0 ≤ (ji20)
            ·rw [if_pos c21] at H
             have c21b0 := eq_true c21
             have c21b1 : decide (0 ≤ (ji20)) = true := decide_eq_true c21
             clear c21
             obtain ⟨ji22, hji22⟩ : ∃ j_ : Int, (shl .i64 37 (ji20)) = j_ := ⟨_, rfl⟩
             replace H : (db_.l1 k3 (Go.bits .xor .i64 x5_3 (ji22)) (wrap64 (x7_3 - 1))) = some r := by first | (rw [hji22] at H; exact H) | (simp only [hji22] at H ⊢; exact H)
             have hji22_ : (IntKind.i64.wrap (37 * 2 ^ min (ji20).toNat 64)) = ji22 := hji22
             have hji22z : (ji20) ≤ 64 → (IntKind.i64.wrap (37 * 2 ^ (ji20).toNat)) = ji22 := yt_ hji22
             have hji22y : (wrap64 (37 * 2 ^ min (ji20).toNat 64)) = ji22 := (gc_ _).symm.trans hji22_
             have hji22x : (ji20) ≤ 64 → (wrap64 (37 * 2 ^ (ji20).toNat)) = ji22 := fun h_ => (gc_ _).symm.trans (hji22z h_)
             have H' := ba_.mk H
             clear H
             go_wp2
             go_roundg k3
             case measure => have := HJ2.out; have := HK2.out; have := HK3.out; omega
             case rel => exact ⟨(Go.bits .xor .i64 x5_3 (ji22)), (wrap64 (x7_3 - 1)), (by first | rfl | (simp; done) | (simp only [← hji22] <;> (first | rfl | simp)) | (simp [*]; done)), (by first | rfl | (simp; done) | (simp [*]; done)), H', ⟨by have := HJ2.out; have := HK2.out; have := HK3.out; omega⟩, by repeat (first | exact ra_.refl _ | apply ra_.step)⟩
            ·rw [if_neg c21] at H
             exact absurd H (by simp)
           ·rw [if_neg c19] at H
            have c19b0 : ((Go.bits .and .i64 (ji18) 1) == 1) = false := beq_eq_false_iff_ne.mpr c19
            have c19b1 : ((Go.bits .and .i64 (ji18) 1) != 1) = true := bne_iff_ne.mpr c19
            have H' := ba_.mk H
            clear H
            go_wp2
            go_roundg k3
            case measure => have := HJ2.out; have := HK2.out; have := HK3.out; omega
            case rel => exact ⟨(x5_3), (wrap64 (x7_3 - 1)), (by first | rfl | (simp; done) | (simp [*]; done)), (by first | rfl | (simp; done) | (simp [*]; done)), H', ⟨by have := HJ2.out; have := HK2.out; have := HK3.out; omega⟩, by repeat (first | exact ra_.refl _ | apply ra_.step)⟩
          ·rw [if_neg c17] at H
           exact absurd H (by simp)
         ·rw [if_neg c15] at H
          have c15b0 : decide (5 ≤ x7_3) = false := decide_eq_false c15
          clear c15
          obtain rfl := Option.some.inj H
          go_wp2
          go_ret
          exact ⟨by first | rfl | (simp; done) | (simp [*]; done), by repeat (first | exact ra_.refl _ | apply ra_.step)⟩
def kc_.l0 : Nat → Int → Int → Option (Int)
 | 0, _, _ => none
 | k + 1, x0, x3 => if x3 < 32 then ((db_.f k x0 x3).bind fun t116 => (if t116 = 1 then (some x3) else (kc_.l0 k x0 (wrap64 (x3 + 1))))) else (some 0)
def kc_.f (k : Nat) (a0 : Int) : Option (Int) := kc_.l0 k a0 1
theorem kc_.xc_ : ∀ k, (∀ y0 y1, LeO (kc_.l0 k y0 y1) (kc_.l0 (k + 1) y0 y1))
 | 0 => fun _ _ r h => by simp [kc_.l0] at h
 | k + 1 => by
  have ih0 := kc_.xc_ k
  ·intro y0 y1
   unfold kc_.l0
   repeat' first
   | (with_reducible exact ih0 _ _)
   | (with_reducible exact db_.mono _ _ _)
   | (with_reducible exact LeO.refl _)
   | (with_reducible exact LeO.none _)
   | (with_reducible refine LeO.ite ?_ ?_)
   | (with_reducible refine LeO.bind ?_ (fun _ => ?_))
   | exact ih0 _ _
   | exact db_.mono _ _ _
   | exact LeO.none _
   | refine LeO.ite ?_ ?_
   | refine LeO.bind ?_ (fun _ => ?_)
theorem kc_.mono : ∀ a0 k, LeO (kc_.f k a0) (kc_.f (k + 1) a0) := by
 intro a0 k
 have ih0 := kc_.xc_ k
 unfold kc_.f
 repeat' first
   | (with_reducible exact ih0 _ _)
   | (with_reducible exact db_.mono _ _ _)
   | (with_reducible exact LeO.refl _)
   | (with_reducible exact LeO.none _)
   | (with_reducible refine LeO.ite ?_ ?_)
   | (with_reducible refine LeO.bind ?_ (fun _ => ?_))
   | exact ih0 _ _
   | exact db_.mono _ _ _
   | exact LeO.none _
   | refine LeO.ite ?_ ?_
   | refine LeO.bind ?_ (fun _ => ?_)
set_option maxHeartbeats 8000000 in
set_option maxRecDepth 100000 in
theorem kc_.calls (k : Nat) (a0 : Int) (r : Int) (w : World) (h : kc_.f k a0 = some r) :
  Calls Try.prog 18 #[.int .i64 a0] w fun e w' => e = .returned (.int .i64 r) ∧ ra_ w w' := by
 have H : (kc_.l0 k a0 1) = some r := h
 clear h
 have H' := ba_.mk H
 clear H
 go_enter Try.func18, Try.ntmps18
 go_wp2
 go_loopg [3] k (fun kq v3 w' => ∃ (x3_1 : Int), v3 = .int .i64 x3_1 ∧ ba_ (kc_.l0 kq a0 x3_1 = some r) ∧ ba_ (kq ≤ k) ∧ ra_ w w')
 case atStart => exact ⟨(1), (by first | rfl | (simp; done) | (simp [*]; done)), H', ⟨Nat.le_refl _⟩, by repeat (first | exact ra_.refl _ | apply ra_.step)⟩
 case round =>
  clear H'
  try clear c1
  obtain ⟨x3_1, rfl, HA, HK1, ⟨m1, rfl⟩⟩ := hrel
  cases gk with
  | zero => exact absurd HA.out (by simp [kc_.l0])
  | succ k1 =>
   have H := HA.out
   clear HA
   simp only [kc_.l0] at H
   by_cases c2 : x3_1 < 32
   ·rw [if_pos c2] at H
    have c2b0 : decide (x3_1 < 32) = true := decide_eq_true c2
    clear c2
    replace H := Option.bind_eq_some_iff.mp H
    obtain ⟨t116, A30, H⟩ := H
    replace H : (if t116 = 1 then (some x3_1) else (kc_.l0 k1 a0 (wrap64 (x3_1 + 1)))) = some r := H
    have A3 := ba_.mk A30
    clear A30
    by_cases c4 : t116 = 1
    ·rw [if_pos c4] at H
     have c4b0 : (t116 == 1) = true := beq_iff_eq.mpr c4
     have c4b1 : (t116 != 1) = false := bne_eq_false_iff_eq.mpr c4
     clear c4
     obtain rfl := Option.some.inj H
     go_wp2_with (first | ((with_reducible refine ua_ (f := 16) rfl ?_); refine hc_ (some 10) rfl rfl Try.func16 (by kernel_rfl) rfl #[.int .i64 a0, .int .i64 x3_1] rfl (by (try simp only [List.map_toArray, List.map_cons, List.map_nil]); first | done | rfl | (simp only [List.length_drop, List.length_take]; rfl)) ?_; (with_reducible refine (db_.calls k1 a0 x3_1 t116 _ A3.out).mono ?_); rintro e w' ⟨rfl, ⟨nd, rfl⟩⟩; refine ⟨_, rfl, ?_⟩))
     go_ret
     exact ⟨by first | rfl | (simp; done) | (simp [*]; done), by repeat (first | exact ra_.refl _ | apply ra_.step)⟩
    ·rw [if_neg c4] at H
     have c4b0 : (t116 == 1) = false := beq_eq_false_iff_ne.mpr c4
     have c4b1 : (t116 != 1) = true := bne_iff_ne.mpr c4
     have H' := ba_.mk H
     clear H
     go_wp2_with (first | ((with_reducible refine ua_ (f := 16) rfl ?_); refine hc_ (some 10) rfl rfl Try.func16 (by kernel_rfl) rfl #[.int .i64 a0, .int .i64 x3_1] rfl (by (try simp only [List.map_toArray, List.map_cons, List.map_nil]); first | done | rfl | (simp only [List.length_drop, List.length_take]; rfl)) ?_; (with_reducible refine (db_.calls k1 a0 x3_1 t116 _ A3.out).mono ?_); rintro e w' ⟨rfl, ⟨nd, rfl⟩⟩; refine ⟨_, rfl, ?_⟩))
     go_roundg k1
     case measure => have := HK1.out; omega
     case rel => exact ⟨(wrap64 (x3_1 + 1)), (by first | rfl | (simp; done) | (simp [*]; done)), H', ⟨by have := HK1.out; omega⟩, by repeat (first | exact ra_.refl _ | apply ra_.step)⟩
   ·rw [if_neg c2] at H
    have c2b0 : decide (x3_1 < 32) = false := decide_eq_false c2
    clear c2
    obtain rfl := Option.some.inj H
    go_wp2
    go_ret
    exact ⟨by first | rfl | (simp; done) | (simp [*]; done), by repeat (first | exact ra_.refl _ | apply ra_.step)⟩
end Go.Proofs.Ytpkhgapifnjbeaa.B
end
section
namespace Go.Proofs.Ytpkhgapifnjbeaa.B
open Go.RowKit Go.Proofs.YtpkhgapifnjbeaaW.PrintWords Go.Proofs.YtpkhgapifnjbeaaW.PrintLast Go.Proofs.YtpkhgapifnjbeaaW.PrintMore
attribute [local go_sem] dd_ fd_ rd_ sd_ uc_ vc_ ed_ gd_
set_option linter.unusedVariables false
set_option linter.unusedSimpArgs false
end Go.Proofs.Ytpkhgapifnjbeaa.B
end
section
namespace Go.Proofs.Ytpkhgapifnjbeaa.Rs
def GF := Fin 32
namespace GF
def mulN (a b : Nat) : Nat :=
 let p := (if b &&& 1 = 0 then 0 else a) ^^^ (if b &&& 2 = 0 then 0 else 2 * a) ^^^ (if b &&& 4 = 0 then 0 else 4 * a) ^^^ (if b &&& 8 = 0 then 0 else 8 * a) ^^^ (if b &&& 16 = 0 then 0 else 16 * a)
 let p := if p &&& 256 = 0 then p else p ^^^ 296
 let p := if p &&& 128 = 0 then p else p ^^^ 148
 let p := if p &&& 64 = 0 then p else p ^^^ 74
 let p := if p &&& 32 = 0 then p else p ^^^ 37
 p % 32
instance : DecidableEq GF := inferInstanceAs (DecidableEq (Fin 32))
instance : Add GF := ⟨fun a b => ⟨(a.1 ^^^ b.1) % 32, Nat.mod_lt _ (by decide)⟩⟩
instance : Mul GF := ⟨fun a b => ⟨mulN a.1 b.1 % 32, Nat.mod_lt _ (by decide)⟩⟩
instance : OfNat GF 0 := ⟨⟨0, by decide⟩⟩
instance : OfNat GF 1 := ⟨⟨1, by decide⟩⟩
instance (p : GF → Prop) [h : DecidablePred p] : Decidable (∀ a, p a) := @Nat.decidableForallFin 32 p h
theorem add_comm : ∀ a b : GF, a + b = b + a := by decide +kernel
theorem mul_comm : ∀ a b : GF, a * b = b * a := by decide +kernel
theorem add_assoc : ∀ a b c : GF, a + b + c = a + (b + c) := by decide +kernel
theorem mul_assoc : ∀ a b c : GF, a * b * c = a * (b * c) := by decide +kernel
theorem mul_add : ∀ a b c : GF, a * (b + c) = a * b + a * c := by decide +kernel
theorem sg_ : ∀ a : GF, a + a = 0 := by decide +kernel
theorem add_zero : ∀ a : GF, a + 0 = a := by decide +kernel
theorem zero_add : ∀ a : GF, 0 + a = a := by decide +kernel
theorem mul_one : ∀ a : GF, a * 1 = a := by decide +kernel
theorem one_mul : ∀ a : GF, 1 * a = a := by decide +kernel
theorem mul_zero : ∀ a : GF, a * 0 = 0 := by decide +kernel
theorem zero_mul : ∀ a : GF, 0 * a = 0 := by decide +kernel
def sq (a : GF) : GF := a * a
def inv (a : GF) : GF := sq a * sq (sq a) * sq (sq (sq a)) * sq (sq (sq (sq a)))
theorem su_ : ∀ a : GF, a ≠ 0 → a * inv a = 1 := by decide +kernel
theorem add_mul (a b c : GF) : (a + b) * c = a * c + b * c := by rw [mul_comm, mul_add, mul_comm c a, mul_comm c b]
theorem mul_eq_zero : ∀ a b : GF, a * b = 0 → a = 0 ∨ b = 0 := by decide +kernel
theorem mul_ne_zero {a b : GF} (ha : a ≠ 0) (hb : b ≠ 0) : a * b ≠ 0 := fun h => (mul_eq_zero a b h).elim ha hb
theorem one_ne_zero : (1 : GF) ≠ 0 := by decide
theorem bj_ {a b : GF} (h : a + b = 0) : a = b := by
 have : a + b + b = 0 + b := by rw [h]
 rwa [add_assoc, sg_, add_zero, zero_add] at this
instance : Std.Associative (α := GF) (· + ·) := ⟨add_assoc⟩
instance : Std.Commutative (α := GF) (· + ·) := ⟨add_comm⟩
instance : Std.Associative (α := GF) (· * ·) := ⟨mul_assoc⟩
instance : Std.Commutative (α := GF) (· * ·) := ⟨mul_comm⟩
def pw (x : GF) : Nat → GF
 | 0 => 1
 | n + 1 => pw x n * x
theorem er_ (x : GF) (a b : Nat) : pw x (a + b) = pw x a * pw x b := by
 induction b with
 | zero => simp [pw, mul_one]
 | succ b ih => rw [← Nat.add_assoc]; simp only [pw, ih]; ac_rfl
theorem pw_mul (x : GF) (a b : Nat) : pw x (a * b) = pw (pw x a) b := by
 induction b with
 | zero => simp [pw]
 | succ b ih => rw [Nat.mul_succ, er_, ih]; rfl
theorem rc1_ (x y : GF) (a : Nat) : pw (x * y) a = pw x a * pw y a := by
 induction a with
 | zero => simp [pw, mul_one]
 | succ b ih => simp only [pw, ih]; ac_rfl
theorem sn_ {x : GF} (h : x ≠ 0) (a : Nat) : pw x a ≠ 0 := by
 induction a with
 | zero => exact one_ne_zero
 | succ b ih => exact mul_ne_zero ih h
def al : GF := ⟨2, by decide⟩
def ex (n : Nat) : GF := pw al n
theorem ex_31 : ex 31 = 1 := by decide +kernel
theorem zq_ (n : Nat) : ex n ≠ 0 := sn_ (by decide) n
theorem ty_ (a b : Nat) : ex (a + b) = ex a * ex b := er_ _ _ _
theorem uy_ (a b : Nat) : ex (a * b) = pw (ex a) b := pw_mul _ _ _
theorem pt_ (n : Nat) : pw 1 n = 1 := by
 induction n with
 | zero => rfl
 | succ n ih => simp only [pw, ih, mul_one]
theorem zs_ (n : Nat) : ex n = ex (n % 31) := by
 conv => lhs; rw [← Nat.div_add_mod n 31]
 rw [ty_, uy_, ex_31, pt_, one_mul]
theorem xw_ : ∀ a : Fin 31, ∀ b : Fin 31, ex a = ex b → a = b := by decide +kernel
theorem nc1_ {a b : Nat} (ha : a < 31) (hb : b < 31) (h : ex a = ex b) : a = b := by
 have := xw_ ⟨a, ha⟩ ⟨b, hb⟩ h
 simpa using this
end GF
def toG (x : Int) : GF := ⟨x.toNat % 32, Nat.mod_lt _ (by decide)⟩
def ofG (a : GF) : Int := (a.1 : Nat)
def isEl (x : Int) : Bool := decide (0 ≤ x) && decide (x < 32)
def mulI (a b : Int) : Int := if isEl a && isEl b then ofG (toG a * toG b) else 0
def powI (n : Int) : Int := ofG (GF.ex (n % 31).toNat)
def invI (a : Int) : Int := if isEl a then ofG (GF.inv (toG a)) else 0
theorem br_ (a : GF) : 0 ≤ ofG a ∧ ofG a < 32 := ⟨Int.natCast_nonneg _, by have := a.2; unfold ofG; omega⟩
theorem yf_ (a : GF) : toG (ofG a) = a := by
 apply Fin.ext
 show (ofG a).toNat % 32 = a.1
 have := a.2
 unfold ofG
 omega
theorem vh_ {x : Int} (h0 : 0 ≤ x) (h : x < 32) : ofG (toG x) = x := by
 show ((x.toNat % 32 : Nat) : Int) = x
 omega
theorem jg_ (a : GF) : isEl (ofG a) = true := by
 have := br_ a
 simp [isEl, this.1, this.2]
theorem xd_ (x : Int) : isEl x = true ↔ 0 ≤ x ∧ x < 32 := by simp [isEl]
theorem ge1_ {a b : GF} (h : ofG a = ofG b) : a = b := by rw [← yf_ a, ← yf_ b, h]
theorem dl_ (a b : GF) : mulI (ofG a) (ofG b) = ofG (a * b) := by simp [mulI, jg_, yf_]
theorem pp_ {a b : Int} (ha : isEl a = true) (hb : isEl b = true) : mulI a b = ofG (toG a * toG b) := by simp [mulI, ha, hb]
theorem wd1_ (a : GF) : invI (ofG a) = ofG (GF.inv a) := by simp [invI, jg_, yf_]
theorem so_ : ofG 0 = 0 := rfl
theorem ui_ {a : GF} : ofG a = 0 ↔ a = 0 := ⟨fun h => ge1_ (h.trans so_.symm), fun h => by rw [h]; rfl⟩
theorem cl_ (a b : Int) : isEl (mulI a b) = true := by
 unfold mulI
 split
 ·exact jg_ _
 ·decide
theorem fz_ (n : Int) : isEl (powI n) = true := jg_ _
theorem ez_ (a : Int) : isEl (invI a) = true := by
 unfold invI
 split
 ·exact jg_ _
 ·decide
end Go.Proofs.Ytpkhgapifnjbeaa.Rs
end
section
namespace Go.Proofs.Ytpkhgapifnjbeaa.G
set_option linter.unusedVariables false
set_option linter.unusedSimpArgs false
open Go.RowKit Go.Proofs.YtpkhgapifnjbeaaW.PrintWords Go.Proofs.YtpkhgapifnjbeaaW.PrintLast Go.Proofs.YtpkhgapifnjbeaaW.PrintMore Go.Proofs.Ytpkhgapifnjbeaa.Rs Go.Proofs.Ytpkhgapifnjbeaa.B
set_option maxRecDepth 100000
def xorI (a b : Int) : Int := Go.bits .xor .i64 a b
theorem ze1_ : ∀ a b : Fin 32, Go.bits .xor .i64 (a.1 : Int) (b.1 : Int) = ofG ((show GF from a) + (show GF from b)) := by decide +kernel
theorem zj_ (a b : GF) : xorI (ofG a) (ofG b) = ofG (a + b) := ze1_ a b
theorem ml_ {a b : Int} (ha : isEl a = true) (hb : isEl b = true) : xorI a b = ofG (toG a + toG b) := by
 have h1 := (xd_ a).1 ha
 have h2 := (xd_ b).1 hb
 rw [← zj_, vh_ h1.1 h1.2, vh_ h2.1 h2.2]
theorem ke1_ : ∀ m : Fin 31, jd_.l0 40 1 (m.1 : Int) 0 = some (ofG (GF.ex m.1)) := by decide +kernel
theorem tmod31 (n : Int) : Int.tmod (wrap64 (Int.tmod n 31 + 31)) 31 = n % 31 := by
 have h1 : n.tmod 31 < 31 := Int.tmod_lt_of_pos n (by decide)
 have h2 : -31 < n.tmod 31 := by
  have := Int.natAbs_tmod n 31
  have : (n.tmod 31).natAbs < 31 := by rw [this]; exact Nat.mod_lt _ (by decide)
  omega
 have h3 : wrap64 (Int.tmod n 31 + 31) = Int.tmod n 31 + 31 := by unfold wrap64; omega
 rw [h3, Int.tmod_eq_emod_of_nonneg (by omega)]
 have := Int.emod_def n 31
 have := Int.tmod_def n 31
 omega
theorem ks_ (n : Int) : jd_.f 40 n = some (powI n) := by
 unfold jd_.f powI
 rw [tmod31]
 have h1 : 0 ≤ n % 31 := Int.emod_nonneg _ (by decide)
 have h2 : n % 31 < 31 := Int.emod_lt_of_pos _ (by decide)
 have := ke1_ ⟨(n % 31).toNat, by omega⟩
 rw [show (((n % 31).toNat : Nat) : Int) = n % 31 from by omega] at this
 exact this
def logN (a : GF) : Nat := ((List.range 31).find? (fun i => GF.ex i = a)).getD 0
theorem ae1_ : ∀ a : GF, mb_.f 40 (ofG a) = some (logN a : Int) := by decide +kernel
theorem qc1_ : ∀ a : GF, a ≠ 0 → GF.ex (logN a) = a := by decide +kernel
theorem kz_ : ∀ a : GF, logN a < 31 := by decide +kernel
theorem me1_ (a b : GF) (ha : a ≠ 0) (hb : b ≠ 0) : powI ((logN a : Int) + logN b) = ofG (a * b) := by
 unfold powI
 rw [show (((logN a : Int) + logN b) % 31).toNat = (logN a + logN b) % 31 from by omega, ← GF.zs_, GF.ty_, qc1_ a ha, qc1_ b hb]
theorem le1_ : ∀ a : GF, a ≠ 0 → powI (-(logN a : Int)) = ofG (GF.inv a) := by decide +kernel
theorem ip_ (a : Int) : kd_.f a = some (isEl a) := by
 unfold kd_.f isEl
 by_cases h : 0 ≤ a <;> simp [h]
theorem log_f (a : Int) (h : isEl a = true) : mb_.f 40 a = some (logN (toG a) : Int) := by
 have h1 := (xd_ a).1 h
 have := ae1_ (toG a)
 rwa [vh_ h1.1 h1.2] at this
theorem nw_ {a : Int} (h : isEl a = true) (h0 : a ≠ 0) : toG a ≠ 0 := fun e => by
 have h1 := (xd_ a).1 h
 have h2 := vh_ h1.1 h1.2
 rw [e] at h2
 exact h0 h2.symm
theorem ek_ (b : Int) : mulI 0 b = 0 := by
 unfold mulI
 split
 ·rw [show toG 0 = 0 from rfl, GF.zero_mul]; rfl
 ·rfl
theorem ex_ (b : Int) : mulI b 0 = 0 := by
 unfold mulI
 split
 ·rw [show toG 0 = 0 from rfl, GF.mul_zero]; rfl
 ·rfl
theorem ee1_ (k : Nat) (hl : ∀ a, isEl a = true → mb_.f k a = some (logN (toG a) : Int)) (hp : ∀ n, jd_.f k n = some (powI n)) (a b : Int) : qd_.f (k + 1) a b = some (mulI a b) := by
 unfold qd_.f
 rw [ip_]
 simp only [Option.bind_some]
 by_cases ha : isEl a = true
 ·rw [if_pos ha, ip_]
  simp only [Option.bind_some]
  by_cases hb : isEl b = true
  ·rw [if_pos hb]
   by_cases h0 : a = 0
   ·subst h0
    rw [if_pos rfl]
    simp [qd_.j0, ek_]
   ·rw [if_neg h0]
    by_cases h1 : b = 0
    ·subst h1
     simp [qd_.j0, ex_]
    ·have e : (b == 0) = false := by simpa using h1
     have la := kz_ (toG a)
     have lb := kz_ (toG b)
     rw [e]
     simp only [qd_.j0]
     rw [if_neg (by decide), hl a ha, hl b hb]
     simp only [Option.bind_some]
     rw [hp]
     simp only [Option.bind_some]
     rw [show wrap64 ((logN (toG a) : Int) + logN (toG b)) = (logN (toG a) : Int) + logN (toG b) from by unfold wrap64; omega, me1_ _ _ (nw_ ha h0) (nw_ hb h1), pp_ ha hb]
  ·rw [if_neg hb]
   simp [qd_.j0, mulI, hb]
 ·rw [if_neg ha]
  simp [qd_.j0, mulI, ha]
theorem mul_f (a b : Int) : qd_.f 41 a b = some (mulI a b) := ee1_ 40 log_f ks_ a b
theorem pu_ (k : Nat) (hl : ∀ a, isEl a = true → mb_.f k a = some (logN (toG a) : Int)) (hp : ∀ n, jd_.f k n = some (powI n)) (a : Int) : od_.f (k + 1) a = some (invI a) := by
 unfold od_.f
 rw [ip_]
 simp only [Option.bind_some]
 by_cases ha : isEl a = true
 ·rw [if_pos ha]
  by_cases h0 : a = 0
  ·subst h0
   rfl
  ·have e : (a == 0) = false := by simpa using h0
   have la := kz_ (toG a)
   rw [e]
   simp only [od_.j0]
   rw [if_neg (by decide), hl a ha]
   simp only [Option.bind_some]
   rw [hp]
   simp only [Option.bind_some]
   rw [show wrap64 (-(logN (toG a) : Int)) = -(logN (toG a) : Int) from by unfold wrap64; omega, le1_ _ (nw_ ha h0)]
   simp [invI, ha]
 ·rw [if_neg ha]
  simp [od_.j0, invI, ha]
theorem ft_ (a : Int) : od_.f 41 a = some (invI a) := pu_ 40 log_f ks_ a
end Go.Proofs.Ytpkhgapifnjbeaa.G
end
section
namespace Go.Proofs.Ytpkhgapifnjbeaa.G
set_option linter.unusedVariables false
set_option linter.unusedSimpArgs false
open Go.RowKit Go.Proofs.YtpkhgapifnjbeaaW.PrintWords
def powers : List Int := [1, 2, 4, 8, 16, 5, 10, 20, 13, 26, 17, 7, 14, 28, 29, 31, 27, 19, 3, 6, 12, 24, 21, 15, 30, 25, 23, 11, 22, 9, 18]
def hs_.f (a0 : Int) : Option Int := some (powers.getD (a0 % 31).toNat 0)
def dm_ : Array Value := (powers.map (Value.int .i64)).toArray
theorem nt_ (m : Nat) (h : m < 31) : dm_[m]? = some (.int .i64 (powers.getD m 0)) := by
 show (powers.map (Value.int .i64)).toArray[m]? = _
 rw [List.getElem?_toArray, List.getElem?_map, List.getElem?_eq_getElem (show m < powers.length from h), List.getD_eq_getElem?_getD, List.getElem?_eq_getElem (show m < powers.length from h)]
 rfl
theorem zy_ {x : Option (Array Value)} {y C : Array Value} (h : x = some y) (hy : y = C) : x.getD #[] = C := by rw [h]; exact hy
set_option maxHeartbeats 1000000 in
theorem lx_ (n : Int) (w : World) (h1 : n.tmod 31 < 0) (h2 : -31 < n.tmod 31) (C : Array Value) (hC : dm_ = C) (hs : (Try.prog.info? 46).map (·.size) = some C.size) (ho : C.all (·.oneCell') = true) (hz : (31 : Nat) = C.size) (v : Int) (hv : C[(n.tmod 31 + 31).toNat]? = some (.int .i64 v)) :
  Calls Try.prog 21 #[.int .i64 n] w fun e w' => e = .returned (.int .i64 v) ∧ Below w.heap.size w w' := by
 have HC := Lib.hid hC
 have HS := Lib.hid hs
 have HO := Lib.hid ho
 have HZ := Lib.hid hz
 clear hC hs ho hz
 go_enter Try.func21, Try.ntmps21
 go_wp2_with (first | (refine wpList_build rfl 46 _ rfl (by kernel_rfl) ?_; rw [zy_ (y := dm_) (by kernel_rfl) HC.out]) | (refine wpList_store_row rfl 46 _ _ rfl w.heap.size C rfl rfl 46 _ (heap_alloc_new w _) HS.out HZ.out HO.out ?_; rw [World.setRow_alloc_new]))
 go_ret
 exact ⟨rfl, (Below.refl _ _).alloc (Nat.le_refl _) _⟩
set_option maxHeartbeats 1000000 in
theorem mx_ (n : Int) (w : World) (h1 : 0 ≤ n.tmod 31) (h2 : n.tmod 31 < 31) (C : Array Value) (hC : dm_ = C) (hs : (Try.prog.info? 46).map (·.size) = some C.size) (ho : C.all (·.oneCell') = true) (hz : (31 : Nat) = C.size) (v : Int) (hv : C[(n.tmod 31).toNat]? = some (.int .i64 v)) :
  Calls Try.prog 21 #[.int .i64 n] w fun e w' => e = .returned (.int .i64 v) ∧ Below w.heap.size w w' := by
 have HC := Lib.hid hC
 have HS := Lib.hid hs
 have HO := Lib.hid ho
 have HZ := Lib.hid hz
 clear hC hs ho hz
 have hn : ¬ n.tmod 31 < 0 := by omega
 go_enter Try.func21, Try.ntmps21
 go_wp2_with (first | (refine wpList_build rfl 46 _ rfl (by kernel_rfl) ?_; rw [zy_ (y := dm_) (by kernel_rfl) HC.out]) | (refine wpList_store_row rfl 46 _ _ rfl w.heap.size C rfl rfl 46 _ (heap_alloc_new w _) HS.out HZ.out HO.out ?_; rw [World.setRow_alloc_new]))
 go_ret
 exact ⟨rfl, (Below.refl _ _).alloc (Nat.le_refl _) _⟩
theorem hs_.calls (a0 : Int) (r : Int) (w : World) (h : hs_.f a0 = some r) :
  Calls Try.prog 21 #[.int .i64 a0] w fun e w' => e = .returned (.int .i64 r) ∧ Below w.heap.size w w' := by
 obtain rfl := Option.some.inj h
 have h1 : a0.tmod 31 < 31 := Int.tmod_lt_of_pos a0 (by decide)
 have hs : (Try.prog.info? 46).map (·.size) = some dm_.size := by kernel_rfl
 have ho : dm_.all (·.oneCell') = true := by decide +kernel
 have hz : (31 : Nat) = dm_.size := rfl
 by_cases h0 : a0.tmod 31 < 0
 ·have h2 : -31 < a0.tmod 31 := by
   have := Int.natAbs_tmod a0 31
   have : (a0.tmod 31).natAbs < 31 := by rw [this]; exact Nat.mod_lt _ (by decide)
   omega
  have hp : a0 % 31 = a0.tmod 31 + 31 := by have := Int.emod_def a0 31; have := Int.tmod_def a0 31; omega
  rw [hp]
  exact lx_ a0 w h0 h2 dm_ rfl hs ho hz _ (nt_ _ (by omega))
 ·have hp : a0 % 31 = a0.tmod 31 := by have := Int.emod_def a0 31; have := Int.tmod_def a0 31; omega
  rw [hp]
  exact mx_ a0 w (by omega) h1 dm_ rfl hs ho hz _ (nt_ _ (by omega))
end Go.Proofs.Ytpkhgapifnjbeaa.G
end
section
namespace Go.Proofs.Ytpkhgapifnjbeaa.G
set_option linter.unusedVariables false
set_option linter.unusedSimpArgs false
open Go.RowKit Go.Proofs.YtpkhgapifnjbeaaW.PrintWords Go.Proofs.YtpkhgapifnjbeaaW.PrintLast Go.Proofs.YtpkhgapifnjbeaaW.PrintMore Go.Proofs.Ytpkhgapifnjbeaa.Rs Go.Proofs.Ytpkhgapifnjbeaa.B
set_option maxRecDepth 100000
theorem gr_ (a : Int) : mc_.f a = some (isEl a) := by
 unfold mc_.f isEl
 by_cases h : 0 ≤ a <;> simp [h]
theorem yb1_ : ∀ a b : GF, db_.j0 20 (ofG a) (ofG b) false = some (ofG (a * b)) := by decide +kernel
theorem tc1_ (a b : Int) : db_.f 20 a b = some (mulI a b) := by
 unfold db_.f
 rw [gr_]
 simp only [Option.bind_some]
 by_cases ha : isEl a = true
 ·rw [if_pos ha, gr_]
  simp only [Option.bind_some]
  by_cases hb : isEl b = true
  ·rw [hb]
   have h1 := (xd_ a).1 ha
   have h2 := (xd_ b).1 hb
   have := yb1_ (toG a) (toG b)
   rw [vh_ h1.1 h1.2, vh_ h2.1 h2.2] at this
   rw [pp_ ha hb]
   exact this
  ·rw [show isEl b = false from by simpa using hb]
   simp [db_.j0, mulI, hb]
 ·rw [if_neg ha]
  simp [db_.j0, mulI, ha]
theorem oe1_ (k : Nat) (hk : 20 ≤ k) (a b : Int) : db_.f k a b = some (mulI a b) := by
 obtain ⟨d, rfl⟩ : ∃ d, k = 20 + d := ⟨k - 20, by omega⟩
 clear hk
 induction d with
 | zero => exact tc1_ a b
 | succ d ih => exact db_.mono a b (20 + d) _ ih
theorem xb1_ : ∀ a : GF, a ≠ 0 → kc_.l0 60 (ofG a) 1 = some (ofG (GF.inv a)) := by decide +kernel
theorem xt_ (a : Int) (ha : ∀ b, mulI a b ≠ 1) : ∀ (d k : Nat) (x : Int), x = 32 - d → 0 ≤ x → 20 + d < k → kc_.l0 k a x = some 0 := by
 intro d
 induction d with
 | zero =>
  intro k x hx h0 hk
  obtain ⟨k, rfl⟩ : ∃ m, k = m + 1 := ⟨k - 1, by omega⟩
  simp only [kc_.l0]
  rw [if_neg (by omega)]
 | succ d ih =>
  intro k x hx h0 hk
  obtain ⟨k, rfl⟩ : ∃ m, k = m + 1 := ⟨k - 1, by omega⟩
  simp only [kc_.l0]
  rw [if_pos (by omega), oe1_ k (by omega)]
  simp only [Option.bind_some]
  rw [if_neg (ha x), show wrap64 (x + 1) = x + 1 from by unfold wrap64; omega]
  exact ih k (x + 1) (by omega) (by omega) (by omega)
theorem ux_ (a : Int) : kc_.f 60 a = some (invI a) := by
 unfold kc_.f
 by_cases ha : isEl a = true
 ·by_cases h0 : a = 0
  ·subst h0
   rw [xt_ 0 (fun b => by rw [ek_]; decide) 31 60 1 (by omega) (by omega) (by omega)]
   rfl
  ·have h1 := (xd_ a).1 ha
   have := xb1_ (toG a) (nw_ ha h0)
   rw [vh_ h1.1 h1.2] at this
   rw [this]
   simp [invI, ha]
 ·rw [xt_ a (fun b => by simp [mulI, ha]) 31 60 1 (by omega) (by omega) (by omega)]
  simp [invI, ha]
def ud_.f (a b : Int) : Option Int := some (mulI a b)
theorem ud_.calls (a0 a1 r : Int) (w : World) (h : ud_.f a0 a1 = some r) :
  Calls Try.prog 15 #[.int .i64 a0, .int .i64 a1] w fun e w' => e = .returned (.int .i64 r) ∧ ra_ w w' := qd_.calls 41 a0 a1 r w ((mul_f a0 a1).trans h)
def de_.f (n : Int) : Option Int := some (powI n)
theorem de_.calls (a0 r : Int) (w : World) (h : de_.f a0 = some r) :
  Calls Try.prog 20 #[.int .i64 a0] w fun e w' => e = .returned (.int .i64 r) ∧ ra_ w w' := jd_.calls 40 a0 r w ((ks_ a0).trans h)
def nc_.f (n : Int) : Option Int := some (invI n)
theorem nc_.calls (a0 r : Int) (w : World) (h : nc_.f a0 = some r) :
  Calls Try.prog 17 #[.int .i64 a0] w fun e w' => e = .returned (.int .i64 r) ∧ ra_ w w' := od_.calls 41 a0 r w ((ft_ a0).trans h)
def ii_.f (a b : Int) : Option Int := some (xorI a b)
theorem ii_.calls (a0 a1 r : Int) (w : World) (h : ii_.f a0 a1 = some r) :
  Calls Try.prog 65 #[.int .i64 a0, .int .i64 a1] w fun e w' => e = .returned (.int .i64 r) ∧ ra_ w w' := yj_.calls a0 a1 r w h
def uh_.f (a b : Int) : Option Int := some (mulI a b)
theorem uh_.calls (a0 a1 r : Int) (w : World) (h : uh_.f a0 a1 = some r) :
  Calls Try.prog 66 #[.int .i64 a0, .int .i64 a1] w fun e w' => e = .returned (.int .i64 r) ∧ ra_ w w' :=
 sf_.calls 41 a0 a1 r w (by unfold sf_.f; rw [mul_f]; exact h)
def np_.f (a : Int) : Option Int := some (invI a)
theorem np_.calls (a0 r : Int) (w : World) (h : np_.f a0 = some r) :
  Calls Try.prog 86 #[.int .i64 a0] w fun e w' => e = .returned (.int .i64 r) ∧ ra_ w w' :=
 lf_.calls 41 a0 r w (by unfold lf_.f; rw [ft_]; exact h)
def atI (len : Nat) (place n : Int) : Int := powI (wrap64 (n * wrap64 (wrap64 ((len : Int) - 1) - place)))
def g_at.f (l0 : List Int) (a1 a2 : Int) : Option Int := some (atI l0.length a1 a2)
theorem g_at.calls (A0 : Option Addr) (c0 : Nat) (l0 : List Int) (a1 a2 r : Int) (w : World) (hr0 : Kd.C (Kd.int .i64) w A0 l0.length l0) (hc0 : l0.length ≤ c0) (h : g_at.f l0 a1 a2 = some r) :
  Calls Try.prog 62 #[.slice A0 l0.length c0, .int .i64 a1, .int .i64 a2] w fun e w' => e = .returned (.int .i64 r) ∧ ra_ w w' :=
 fj_.calls 40 A0 c0 l0 a1 a2 r w hr0 hc0 (by unfold fj_.f; rw [ks_]; exact h)
def ls_.f (a b : Int) : Option Int := some (mulI a b)
theorem ls_.calls (a0 a1 r : Int) (w : World) (h : ls_.f a0 a1 = some r) :
  Calls Try.prog 16 #[.int .i64 a0, .int .i64 a1] w fun e w' => e = .returned (.int .i64 r) ∧ ra_ w w' := db_.calls 20 a0 a1 r w ((tc1_ a0 a1).trans h)
def vp_.f (a : Int) : Option Int := some (invI a)
theorem vp_.calls (a0 r : Int) (w : World) (h : vp_.f a0 = some r) :
  Calls Try.prog 18 #[.int .i64 a0] w fun e w' => e = .returned (.int .i64 r) ∧ ra_ w w' := kc_.calls 60 a0 r w ((ux_ a0).trans h)
theorem kx_ : ∀ m : Fin 31, powers.getD m.1 0 = ofG (GF.ex m.1) := by decide +kernel
theorem wz_ (n : Int) : powers.getD (n % 31).toNat 0 = powI n := by
 have h1 : 0 ≤ n % 31 := Int.emod_nonneg _ (by decide)
 have h2 : n % 31 < 31 := Int.emod_lt_of_pos _ (by decide)
 exact kx_ ⟨(n % 31).toNat, by omega⟩
def gh_.f (n : Int) : Option Int := some (powI n)
theorem gh_.calls (a0 r : Int) (w : World) (h : gh_.f a0 = some r) :
  Calls Try.prog 21 #[.int .i64 a0] w fun e w' => e = .returned (.int .i64 r) ∧ Below w.heap.size w w' :=
 hs_.calls a0 r w ((congrArg some (wz_ a0)).trans h)
end Go.Proofs.Ytpkhgapifnjbeaa.G
end
section
namespace Go.Proofs.Ytpkhgapifnjbeaa.G
set_option linter.unusedVariables false
set_option linter.unusedSimpArgs false
open Go.RowKit Go.Proofs.YtpkhgapifnjbeaaW.PrintWords Go.Proofs.YtpkhgapifnjbeaaW.PrintLast Go.Proofs.YtpkhgapifnjbeaaW.PrintMore
theorem hc1_ {W : World} {e g base : Nat} {ok : Nat → Prop} (xs : List Int) (hg : W.heap[g]? = some (.cells (nums .i64 xs).toArray e (0, 0))) (hb : base ≤ g) (hok : ok g) (hm : xs.length ≤ 1000) :
  Kd.R (Kd.int .i64) e W base ok (.slice (some ⟨g, 0, none⟩) xs.length xs.length) xs := by
 refine Kd.no_ ⟨by simp [encs], .inr ⟨g, xs.length, _, rfl, hb, hg, Nat.le_refl _, by unfold maxLen; omega, by simp [nums], ?_⟩⟩ (fun k hk => by simp [Value.ownBlock] at hk; exact hk ▸ hok)
 rw [Nat.mul_one]
 exact List.take_of_length_le (by simp [nums])
theorem dp_ {W : World} {e g base n : Nat} {ok : Nat → Prop} {xs : List Int} (h : Kd.R (Kd.int .i64) e W base ok (.slice (some ⟨g, 0, none⟩) n n) xs) (hn : 0 < n) :
  W.heap[g]? = some (.cells (nums .i64 xs).toArray e (0, 0)) ∧ xs.length = n := by
 have hl : xs.length = n := by
  obtain ⟨A, c, he⟩ := Kd.fc_ h
  injection he with _ h2 _
  exact h2.symm
 subst hl
 have ho := (Kd.ym_ h).2
 rcases ho with ⟨he, _⟩ | ⟨g', cap, cur, he, hb, hg, h1, h2, h3, h4⟩
 ·injection he with h5 _ _
  cases h5
 ·injection he with h5 h6 h7
  injection h5 with h5
  injection h5 with h5 _ _
  subst h5
  subst h7
  refine ⟨?_, rfl⟩
  rw [hg]
  congr 2
  apply Array.ext'
  rw [← show encs (Value.int .i64) xs = nums .i64 xs from rfl, ← h4]
  show cur.toList = _
  simp only [List.toList_toArray]
  rw [List.take_of_length_le]
  simp; omega
end Go.Proofs.Ytpkhgapifnjbeaa.G
end
section
namespace Go.Proofs.Ytpkhgapifnjbeaa.S
open Go.RowKit Go.Proofs.Ytpkhgapifnjbeaa.G Go.Proofs.YtpkhgapifnjbeaaW.PrintWords Go.Proofs.YtpkhgapifnjbeaaW.PrintLast Go.Proofs.YtpkhgapifnjbeaaW.PrintMore
attribute [local go_sem] dd_ fd_ rd_ sd_ uc_ vc_ ed_ gd_
set_option linter.unusedVariables false
set_option linter.unusedSimpArgs false
def errW : Option Int → Value
 | none => .nilIface
 | some c => .iface 0 (.int .i64 c)
theorem bb_ : errW none = .nilIface := rfl
theorem cb_ (c : Int) : errW (some c) = .iface 0 (.int .i64 c) := rfl
theorem bo_ : (Try.prog.info? 57).map (fun i => (i.zero, i.size, i.bytes)) = some (some (.int .i64 0), 1, 8) := by kernel_rfl
end Go.Proofs.Ytpkhgapifnjbeaa.S
end
section
namespace Go.Proofs.Ytpkhgapifnjbeaa.S
open Go.RowKit Go.Proofs.Ytpkhgapifnjbeaa.G Go.Proofs.YtpkhgapifnjbeaaW.PrintWords Go.Proofs.YtpkhgapifnjbeaaW.PrintLast Go.Proofs.YtpkhgapifnjbeaaW.PrintMore
attribute [local go_sem] dd_ fd_ rd_ sd_ uc_ vc_ ed_ gd_
set_option linter.unusedVariables false
set_option linter.unusedSimpArgs false
def bd_.f (a0 : Int) : Option (Int) := if (wrap64 (a0 * 2)) ≥ 32 then (some (Go.bits .xor .i64 (wrap64 (a0 * 2)) 37)) else (some (wrap64 (a0 * 2)))
set_option maxHeartbeats 8000000 in
set_option maxRecDepth 100000 in
theorem bd_.calls (a0 : Int) (r : Int) (w : World) (h : bd_.f a0 = some r) :
  Calls Try.prog 41 #[.int .i64 a0] w fun e w' => e = .returned (.int .i64 r) ∧ ra_ w w' := by
 have H : (if (wrap64 (a0 * 2)) ≥ 32 then (some (Go.bits .xor .i64 (wrap64 (a0 * 2)) 37)) else (some (wrap64 (a0 * 2)))) = some r := h
 clear h
 by_cases c2 : (wrap64 (a0 * 2)) ≥ 32
 ·rw [if_pos c2] at H
  have c2b0 : decide (32 ≤ (wrap64 (a0 * 2))) = true := decide_eq_true c2
  clear c2
  obtain rfl := Option.some.inj H
  go_enter Try.func41, Try.ntmps41
  go_wp2
  go_ret
  exact ⟨by first | rfl | (simp; done) | (simp [*]; done), by repeat (first | exact ra_.refl _ | apply ra_.step)⟩
 ·rw [if_neg c2] at H
  have c2b0 : decide (32 ≤ (wrap64 (a0 * 2))) = false := decide_eq_false c2
  clear c2
  obtain rfl := Option.some.inj H
  go_enter Try.func41, Try.ntmps41
  go_wp2
  go_ret
  exact ⟨by first | rfl | (simp; done) | (simp [*]; done), by repeat (first | exact ra_.refl _ | apply ra_.step)⟩
def kd_.f (a0 : Int) : Option (Bool) := if a0 ≥ 0 then (some (decide (a0 < 32))) else (some false)
set_option maxHeartbeats 8000000 in
set_option maxRecDepth 100000 in
theorem kd_.calls (a0 : Int) (r : Bool) (w : World) (h : kd_.f a0 = some r) :
  Calls Try.prog 38 #[.int .i64 a0] w fun e w' => e = .returned (.bool r) ∧ ra_ w w' := by
 have H : (if a0 ≥ 0 then (some (decide (a0 < 32))) else (some false)) = some r := h
 clear h
 by_cases c2 : a0 ≥ 0
 ·rw [if_pos c2] at H
  have c2b0 : decide (0 ≤ a0) = true := decide_eq_true c2
  clear c2
  obtain rfl := Option.some.inj H
  go_enter Try.func38, Try.ntmps38
  go_wp2
  go_ret
  exact ⟨by first | rfl | (simp; done) | (simp [*]; done), by repeat (first | exact ra_.refl _ | apply ra_.step)⟩
 ·rw [if_neg c2] at H
  have c2b0 : decide (0 ≤ a0) = false := decide_eq_false c2
  clear c2
  obtain rfl := Option.some.inj H
  go_enter Try.func38, Try.ntmps38
  go_wp2
  go_ret
  exact ⟨by first | rfl | (simp; done) | (simp [*]; done), by repeat (first | exact ra_.refl _ | apply ra_.step)⟩
def mb_.l0 : Nat → Int → Int → Int → Option (Int)
 | 0, _, _, _ => none
 | k + 1, x0, x3, x5 => if x5 < 31 then (if x3 = x0 then (some x5) else ((bd_.f x3).bind fun t101 => (mb_.l0 k x0 t101 (wrap64 (x5 + 1))))) else (some 0)
def mb_.f (k : Nat) (a0 : Int) : Option (Int) := mb_.l0 k a0 1 0
theorem mb_.xc_ : ∀ k, (∀ y0 y1 y2, LeO (mb_.l0 k y0 y1 y2) (mb_.l0 (k + 1) y0 y1 y2))
 | 0 => fun _ _ _ r h => by simp [mb_.l0] at h
 | k + 1 => by
  have ih0 := mb_.xc_ k
  ·intro y0 y1 y2
   unfold mb_.l0
   repeat' first
   | (with_reducible exact ih0 _ _ _)
   | (with_reducible exact LeO.refl _)
   | (with_reducible exact LeO.none _)
   | (with_reducible refine LeO.ite ?_ ?_)
   | (with_reducible refine LeO.bind ?_ (fun _ => ?_))
   | exact ih0 _ _ _
   | exact LeO.none _
   | refine LeO.ite ?_ ?_
   | refine LeO.bind ?_ (fun _ => ?_)
theorem mb_.mono : ∀ a0 k, LeO (mb_.f k a0) (mb_.f (k + 1) a0) := by
 intro a0 k
 have ih0 := mb_.xc_ k
 unfold mb_.f
 repeat' first
   | (with_reducible exact ih0 _ _ _)
   | (with_reducible exact LeO.refl _)
   | (with_reducible exact LeO.none _)
   | (with_reducible refine LeO.ite ?_ ?_)
   | (with_reducible refine LeO.bind ?_ (fun _ => ?_))
   | exact ih0 _ _ _
   | exact LeO.none _
   | refine LeO.ite ?_ ?_
   | refine LeO.bind ?_ (fun _ => ?_)
set_option maxHeartbeats 8000000 in
set_option maxRecDepth 100000 in
theorem mb_.calls (k : Nat) (a0 : Int) (r : Int) (w : World) (h : mb_.f k a0 = some r) :
  Calls Try.prog 39 #[.int .i64 a0] w fun e w' => e = .returned (.int .i64 r) ∧ ra_ w w' := by
 have H : (mb_.l0 k a0 1 0) = some r := h
 clear h
 have H' := ba_.mk H
 clear H
 go_enter Try.func39, Try.ntmps39
 go_wp2
 go_loopg [3, 5] k (fun kq v3 v5 w' => ∃ (x3_1 : Int) (x5_1 : Int), v3 = .int .i64 x3_1 ∧ v5 = .int .i64 x5_1 ∧ ba_ (mb_.l0 kq a0 x3_1 x5_1 = some r) ∧ ba_ (kq ≤ k) ∧ ra_ w w')
 case atStart => exact ⟨(1), (0), (by first | rfl | (simp; done) | (simp [*]; done)), (by first | rfl | (simp; done) | (simp [*]; done)), H', ⟨Nat.le_refl _⟩, by repeat (first | exact ra_.refl _ | apply ra_.step)⟩
 case round =>
  clear H'
  obtain ⟨x3_1, x5_1, rfl, rfl, HA, HK1, ⟨m1, rfl⟩⟩ := hrel
  cases gk with
  | zero => exact absurd HA.out (by simp [mb_.l0])
  | succ k1 =>
   have H := HA.out
   clear HA
   simp only [mb_.l0] at H
   by_cases c2 : x5_1 < 31
   ·rw [if_pos c2] at H
    have c2b0 : decide (x5_1 < 31) = true := decide_eq_true c2
    clear c2
    by_cases c3 : x3_1 = a0
    ·rw [if_pos c3] at H
     have c3b0 : (x3_1 == a0) = true := beq_iff_eq.mpr c3
     have c3b1 : (x3_1 != a0) = false := bne_eq_false_iff_eq.mpr c3
     clear c3
     obtain rfl := Option.some.inj H
     go_wp2
     go_ret
     exact ⟨by first | rfl | (simp; done) | (simp [*]; done), by repeat (first | exact ra_.refl _ | apply ra_.step)⟩
    ·rw [if_neg c3] at H
     have c3b0 : (x3_1 == a0) = false := beq_eq_false_iff_ne.mpr c3
     have c3b1 : (x3_1 != a0) = true := bne_iff_ne.mpr c3
     replace H := Option.bind_eq_some_iff.mp H
     obtain ⟨t101, A40, H⟩ := H
     replace H : (mb_.l0 k1 a0 t101 (wrap64 (x5_1 + 1))) = some r := H
     have A4 := ba_.mk A40
     clear A40
     have H' := ba_.mk H
     clear H
     go_wp2_with (first | ((with_reducible refine ua_ (f := 41) rfl ?_); refine hc_ (some 13) rfl rfl Try.func41 (by kernel_rfl) rfl #[.int .i64 x3_1] rfl (by (try simp only [List.map_toArray, List.map_cons, List.map_nil]); first | done | rfl | (simp only [List.length_drop, List.length_take]; rfl)) ?_; (with_reducible refine (bd_.calls x3_1 t101 _ A4.out).mono ?_); rintro e w' ⟨rfl, ⟨nd, rfl⟩⟩; refine ⟨_, rfl, ?_⟩))
     go_roundg k1
     case measure => have := HK1.out; omega
     case rel => exact ⟨(t101), (wrap64 (x5_1 + 1)), (by first | rfl | (simp; done) | (simp [*]; done)), (by first | rfl | (simp; done) | (simp [*]; done)), H', ⟨by have := HK1.out; omega⟩, by repeat (first | exact ra_.refl _ | apply ra_.step)⟩
   ·rw [if_neg c2] at H
    have c2b0 : decide (x5_1 < 31) = false := decide_eq_false c2
    clear c2
    obtain rfl := Option.some.inj H
    go_wp2
    go_ret
    exact ⟨by first | rfl | (simp; done) | (simp [*]; done), by repeat (first | exact ra_.refl _ | apply ra_.step)⟩
mutual
def cc_.l0 : Nat → List Int → List Int → List Int → Int → Int → Option (List Int)
 | 0, _, _, _, _, _ => none
 | k + 1, x0, x3, x7, x8, x9 => if x9 < x8 then (if 0 ≤ x9 then (if x9 < (x7.length : Int) then (cc_.l1 k x0 x3 x9 (rd x7 x9) x7 x8 x9 0) else (none)) else (none)) else (some x3)
def cc_.l1 : Nat → List Int → List Int → Int → Int → List Int → Int → Int → Int → Option (List Int)
 | 0, _, _, _, _, _, _, _, _ => none
 | k + 1, x0, x3, x4, x5, x7, x8, x9, x14 => if x14 < 6 then (if 0 ≤ x14 then (if x14 < (x3.length : Int) then ((de_.f (wrap64 ((wrap64 (x14 + 1)) * (wrap64 ((wrap64 ((x0.length : Int) - 1)) - x4))))).bind fun t107 => ((ud_.f (mx x5 0) t107).bind fun t108 => (cc_.l1 k x0 (x3.set (x14 : Int).toNat (Go.bits .xor .i64 (rd x3 x14) t108)) x4 x5 x7 x8 x9 (wrap64 (x14 + 1))))) else (none)) else (none)) else (cc_.l0 k x0 x3 x7 x8 (wrap64 (x9 + 1)))
end
def cc_.f (k : Nat) (l0 : List Int) : Option (List Int) := if 6 ≤ 35184372088832 then (cc_.l0 k l0 (List.replicate 6 0) l0 (l0.length : Int) 0) else (none)
theorem cc_.xc_ : ∀ k, (∀ y0 y1 y2 y3 y4, LeO (cc_.l0 k y0 y1 y2 y3 y4) (cc_.l0 (k + 1) y0 y1 y2 y3 y4)) ∧ (∀ y0 y1 y2 y3 y4 y5 y6 y7, LeO (cc_.l1 k y0 y1 y2 y3 y4 y5 y6 y7) (cc_.l1 (k + 1) y0 y1 y2 y3 y4 y5 y6 y7))
 | 0 => ⟨fun _ _ _ _ _ r h => by simp [cc_.l0] at h, fun _ _ _ _ _ _ _ _ r h => by simp [cc_.l1] at h⟩
 | k + 1 => by
  obtain ⟨ih0, ih1⟩ := cc_.xc_ k
  refine ⟨?_, ?_⟩
  ·intro y0 y1 y2 y3 y4
   unfold cc_.l0
   repeat' first
   | (with_reducible exact ih0 _ _ _ _ _)
   | (with_reducible exact ih1 _ _ _ _ _ _ _ _)
   | (with_reducible exact LeO.refl _)
   | (with_reducible exact LeO.none _)
   | (with_reducible refine LeO.ite ?_ ?_)
   | (with_reducible refine LeO.bind ?_ (fun _ => ?_))
   | exact ih0 _ _ _ _ _
   | exact ih1 _ _ _ _ _ _ _ _
   | exact LeO.none _
   | refine LeO.ite ?_ ?_
   | refine LeO.bind ?_ (fun _ => ?_)
  ·intro y0 y1 y2 y3 y4 y5 y6 y7
   unfold cc_.l1
   repeat' first
   | (with_reducible exact ih0 _ _ _ _ _)
   | (with_reducible exact ih1 _ _ _ _ _ _ _ _)
   | (with_reducible exact LeO.refl _)
   | (with_reducible exact LeO.none _)
   | (with_reducible refine LeO.ite ?_ ?_)
   | (with_reducible refine LeO.bind ?_ (fun _ => ?_))
   | exact ih0 _ _ _ _ _
   | exact ih1 _ _ _ _ _ _ _ _
   | exact LeO.none _
   | refine LeO.ite ?_ ?_
   | refine LeO.bind ?_ (fun _ => ?_)
theorem cc_.mono : ∀ a0 k, LeO (cc_.f k a0) (cc_.f (k + 1) a0) := by
 intro a0 k
 obtain ⟨ih0, ih1⟩ := cc_.xc_ k
 unfold cc_.f
 repeat' first
   | (with_reducible exact ih0 _ _ _ _ _)
   | (with_reducible exact ih1 _ _ _ _ _ _ _ _)
   | (with_reducible exact LeO.refl _)
   | (with_reducible exact LeO.none _)
   | (with_reducible refine LeO.ite ?_ ?_)
   | (with_reducible refine LeO.bind ?_ (fun _ => ?_))
   | exact ih0 _ _ _ _ _
   | exact ih1 _ _ _ _ _ _ _ _
   | exact LeO.none _
   | refine LeO.ite ?_ ?_
   | refine LeO.bind ?_ (fun _ => ?_)
def cc_.T8 : Bool × List (List Nat × List Nat) := (true, [([], []), ([0], [0]), ([1], [1]), ([], []), ([3], [3]), ([], []), ([5], [5]), ([], []), ([7], [7]), ([8], [8]), ([], []), ([9, 10], [9, 10]), ([6, 11], [6, 11]), ([12], [12]), ([4, 13, 13], [4, 13]), ([2, 14], [2, 14]), ([0, 0, 1, 2, 3, 4, 5, 6, 7, 8, 9, 10, 11, 12, 13, 14, 15], [0]), ([16, 15, 14, 0, 1, 2, 3, 4, 5, 6, 7, 8, 9, 10, 11, 12, 13, 14, 15], [15, 16])])
def cc_.B8 : List Nat := [0, 1, 3, 0, 8, 0, 32, 0, 128, 384, 0, 1920, 4064, 8160, 16376, 32767, 65535, 131071]
theorem cc_.tab8 : rtab .any (opsOf Try.f50 8) = cc_.T8 := by kernel_rfl
theorem cc_.bits8 : yi_ cc_.T8.2 cc_.B8 = true := by kernel_rfl
set_option maxHeartbeats 8000000 in
set_option maxRecDepth 100000 in
theorem cc_.calls (k : Nat) (A0 : Option Addr) (c0 : Nat) (l0 : List Int) (r : List Int) (w : World) (hr0 : Kd.C (Kd.int .i64) w A0 l0.length l0) (hc0 : l0.length ≤ c0) (h : cc_.f k l0 = some r) :
  Calls Try.prog 50 #[.slice A0 l0.length c0] w fun e w' => e = .returned (.agg (nums .i64 r).toArray) ∧ Below w.heap.size w w' := by
 have HR0 := ba_.mk hr0
 have HC0 := ba_.mk hc0
 clear hr0 hc0
 have HB := ba_.mk (Below.refl w.heap.size w)
 have H : (if 6 ≤ 35184372088832 then (cc_.l0 k l0 (List.replicate 6 0) l0 (l0.length : Int) 0) else (none)) = some r := h
 clear h
 by_cases c2 : 6 ≤ 35184372088832
 ·rw [if_pos c2] at H
  have c2b0 := eq_true c2
  have c2b1 : decide (6 ≤ 35184372088832) = true := decide_eq_true c2
  clear c2
  obtain ⟨y102, hy102⟩ : ∃ y_ : List Int, y_ = (List.replicate 6 0) := ⟨_, rfl⟩
  replace H : (cc_.l0 k l0 y102 l0 (l0.length : Int) 0) = some r := by first | (rw [hy102]; with_reducible exact H) | (have H2_ := (Option.bind_some _ _).symm.trans H; rw [hy102]; with_reducible exact H2_) | (have H2_ := (Option.bind_some _ _).symm.trans H; with_reducible exact H2_) | with_reducible exact H | (rw [hy102]; exact H) | exact H
  have Ny102 := ba_.mk hy102
  clear hy102
  have H' := ba_.mk H
  clear H
  go_enter Try.func50, Try.ntmps50
  go_wp2
  have n0_ := ba_.mk (show Kd.R (Kd.int .i64) 58 ((w.alloc (.cells #[.int .i64 0, .int .i64 0, .int .i64 0, .int .i64 0, .int .i64 0, .int .i64 0] 58)).alloc (.cells #[.int .i64 0, .int .i64 0, .int .i64 0, .int .i64 0, .int .i64 0, .int .i64 0] 58)) w.heap.size (fun k_ => k_ ≠ w.heap.size) (.slice (some ⟨w.heap.size + 1, 0, none⟩) 6 6) y102 from by rw [Ny102.out]; exact hc1_ (List.replicate 6 0) (heap_alloc2_new w _ _) (by omega) (by omega) (by decide))
  have HZ := ba_.mk (show ((w.alloc (.cells #[.int .i64 0, .int .i64 0, .int .i64 0, .int .i64 0, .int .i64 0, .int .i64 0] 58)).alloc (.cells #[.int .i64 0, .int .i64 0, .int .i64 0, .int .i64 0, .int .i64 0, .int .i64 0] 58)).heap[w.heap.size]? = some (.cells #[.int .i64 0, .int .i64 0, .int .i64 0, .int .i64 0, .int .i64 0, .int .i64 0] 58 (0, 0)) from heap_alloc2_old w _ _)
  have HO104 := n0_
  clear n0_
  go_loopg [9] k (fun kq v9 w' => ∃ (x3_1 : List Int) (x9_1 : Int), v9 = .int .i64 x9_1 ∧ ba_ (cc_.l0 kq l0 x3_1 l0 (l0.length : Int) x9_1 = some r) ∧ ba_ (kq ≤ k) ∧ ba_ (Kd.R (Kd.int .i64) 58 w' w.heap.size (fun k_ => k_ ≠ w.heap.size) (.slice (some ⟨w.heap.size + 1, 0, none⟩) 6 6) x3_1) ∧ ba_ (w'.heap[w.heap.size]? = some (.cells #[.int .i64 0, .int .i64 0, .int .i64 0, .int .i64 0, .int .i64 0, .int .i64 0] 58 (0, 0))) ∧ ba_ (Below w.heap.size w w'))
  case atStart => exact ⟨(y102), (0), (by first | rfl | (simp; done) | (simp [*]; done)), H', ⟨Nat.le_refl _⟩, ⟨HO104.out⟩, ⟨by first | exact HZ.out | exact (heap_setCell_other _ _ _ _ HN.out).trans HZ.out⟩, ⟨by repeat (first | (with_reducible first | exact HB.out | apply fa_ | apply ca_ | apply ga_) | exact HB.out)⟩⟩
  case round =>
   clear H'
   try clear c2
   try clear c2b0
   try clear c2b1
   try clear p2
   obtain ⟨x3_1, x9_1, rfl, HA, HK1, HO_3, HZ, HB⟩ := hrel
   cases gk with
   | zero => exact absurd HA.out (by simp [cc_.l0])
   | succ k1 =>
    have H := HA.out
    clear HA
    simp only [cc_.l0] at H
    by_cases c5 : x9_1 < (l0.length : Int)
    ·rw [if_pos c5] at H
     have c5b0 : decide (x9_1 < (l0.length : Int)) = true := decide_eq_true c5
     clear c5
     by_cases c6 : 0 ≤ x9_1
     ·rw [if_pos c6] at H
      have c6b0 : decide (0 ≤ x9_1) = true := decide_eq_true c6
      clear c6
      by_cases c7 : x9_1 < (l0.length : Int)
      ·rw [if_pos c7] at H
       have c7b0 : decide (x9_1 < (l0.length : Int)) = true := decide_eq_true c7
       clear c7
       have H' := ba_.mk H
       clear H
       have p105 : 0 ≤ (x9_1 : Int) := of_decide_eq_true (by first | (with_reducible assumption) | assumption)
       have q105 : x9_1 < (l0.length : Int) := of_decide_eq_true (by first | (with_reducible assumption) | assumption)
       obtain ⟨ad105, e105, hx105_0⟩ := Kd.nd_ HR0.out x9_1 p105 q105
       cases e105
       replace hx105_0 := (HB.out.cell (World.block_lt_of_cell? w _ hx105_0)).trans hx105_0
       replace p105 := eq_true p105
       replace q105 := eq_true q105
       go_wp2
       go_loopg [14] k1 (fun kq v14 w' => ∃ (x3_2 : List Int) (x14_2 : Int), v14 = .int .i64 x14_2 ∧ ba_ (cc_.l1 kq l0 x3_2 x9_1 (rd l0 x9_1) l0 (l0.length : Int) x9_1 x14_2 = some r) ∧ ba_ (kq ≤ k1) ∧ ba_ (Kd.R (Kd.int .i64) 58 w' w.heap.size (fun k_ => k_ ≠ w.heap.size) (.slice (some ⟨w.heap.size + 1, 0, none⟩) 6 6) x3_2) ∧ ba_ (w'.heap[w.heap.size]? = some (.cells #[.int .i64 0, .int .i64 0, .int .i64 0, .int .i64 0, .int .i64 0, .int .i64 0] 58 (0, 0))) ∧ ba_ (Below w.heap.size w w'))
       case atStart => exact ⟨(x3_1), (0), (by first | rfl | (simp; done) | (simp [*]; done)), H', ⟨Nat.le_refl _⟩, ⟨by (with_reducible repeat (first | apply Kd.la_ | apply Kd.ka_ | apply Kd.ma_)); exact HO_3.out⟩, ⟨by first | exact HZ.out | exact (heap_setCell_other _ _ _ _ HN.out).trans HZ.out⟩, ⟨by repeat (first | (with_reducible first | exact HB.out | apply fa_ | apply ca_ | apply ga_) | exact HB.out)⟩⟩
       case round =>
        clear H'
        try clear p1
        try clear q1
        try clear hx1
        try clear c2
        try clear c2b0
        try clear c2b1
        try clear p2
        try clear c5
        try clear c5b0
        try clear c6
        try clear c6b0
        try clear c7
        try clear c7b0
        try clear hx105_0
        try clear p105
        try clear p2
        try clear q105
        obtain ⟨x3_2, x14_2, rfl, HA, HK2, HO_3, HZ, HB⟩ := hrel
        cases gk with
        | zero => exact absurd HA.out (by simp [cc_.l1])
        | succ k2 =>
         have H := HA.out
         clear HA
         simp only [cc_.l1] at H
         by_cases c8 : x14_2 < 6
         ·rw [if_pos c8] at H
          have c8b0 : decide (x14_2 < 6) = true := decide_eq_true c8
          clear c8
          by_cases c9 : 0 ≤ x14_2
          ·rw [if_pos c9] at H
           have c9b0 : decide (0 ≤ x14_2) = true := decide_eq_true c9
           clear c9
           by_cases c10 : x14_2 < (x3_2.length : Int)
           ·rw [if_pos c10] at H
            have c10b0 : decide (x14_2 < (x3_2.length : Int)) = true := decide_eq_true c10
            clear c10
            obtain ⟨ji11, hji11⟩ : ∃ j_ : Int, (mx (rd l0 x9_1) 0) = j_ := ⟨_, rfl⟩
            replace H : ((de_.f (wrap64 ((wrap64 (x14_2 + 1)) * (wrap64 ((wrap64 ((l0.length : Int) - 1)) - x9_1))))).bind fun t107 => ((ud_.f (ji11) t107).bind fun t108 => (cc_.l1 k2 l0 (x3_2.set (x14_2 : Int).toNat (Go.bits .xor .i64 (rd x3_2 x14_2) t108)) x9_1 (rd l0 x9_1) l0 (l0.length : Int) x9_1 (wrap64 (x14_2 + 1))))) = some r := by first | (rw [hji11] at H; exact H) | (simp only [hji11] at H ⊢; exact H)
            have hji11_ : (if (rd l0 x9_1) < 0 then 0 else (rd l0 x9_1)) = ji11 := hji11
            replace H := Option.bind_eq_some_iff.mp H
            obtain ⟨t107, A120, H⟩ := H
            replace H : ((ud_.f (ji11) t107).bind fun t108 => (cc_.l1 k2 l0 (x3_2.set (x14_2 : Int).toNat (Go.bits .xor .i64 (rd x3_2 x14_2) t108)) x9_1 (rd l0 x9_1) l0 (l0.length : Int) x9_1 (wrap64 (x14_2 + 1)))) = some r := H
            have A12 := ba_.mk A120
            clear A120
            replace H := Option.bind_eq_some_iff.mp H
            obtain ⟨t108, A130, H⟩ := H
            replace H : (cc_.l1 k2 l0 (x3_2.set (x14_2 : Int).toNat (Go.bits .xor .i64 (rd x3_2 x14_2) t108)) x9_1 (rd l0 x9_1) l0 (l0.length : Int) x9_1 (wrap64 (x14_2 + 1))) = some r := H
            have A13 := ba_.mk A130
            clear A130
            obtain ⟨y109, hy109⟩ : ∃ y_ : List Int, y_ = (x3_2.set (x14_2 : Int).toNat (Go.bits .xor .i64 (rd x3_2 x14_2) t108)) := ⟨_, rfl⟩
            replace H : (cc_.l1 k2 l0 y109 x9_1 (rd l0 x9_1) l0 (l0.length : Int) x9_1 (wrap64 (x14_2 + 1))) = some r := by first | (rw [hy109]; with_reducible exact H) | (have H2_ := (Option.bind_some _ _).symm.trans H; rw [hy109]; with_reducible exact H2_) | (have H2_ := (Option.bind_some _ _).symm.trans H; with_reducible exact H2_) | with_reducible exact H | (rw [hy109]; exact H) | exact H
            have Ny109 := ba_.mk hy109
            clear hy109
            have H' := ba_.mk H
            clear H
            try go_wp2
            have n0_ := ba_.mk (Kd.ma_ HO_3.out)
            have n1_ := ba_.mk (ga_ HB.out)
            have HZ := ba_.mk (show wr.drew.heap[w.heap.size]? = some (.cells #[.int .i64 0, .int .i64 0, .int .i64 0, .int .i64 0, .int .i64 0, .int .i64 0] 58 (0, 0)) from HZ.out)
            clear HO_3
            clear HB
            have HO_3 := n0_
            have HB := n1_
            clear n0_ n1_
            obtain ⟨Ao16, co16, eo16⟩ := Kd.fc_ HO_3.out
            (first | subst eo16 | (injection eo16 with f1_ f2_ f3_; have f4_ := f1_.symm; have f5_ := f3_.symm; clear f1_ f2_ f3_; subst f4_; subst f5_))
            have p106 : 0 ≤ (x14_2 : Int) := of_decide_eq_true (by first | (with_reducible assumption) | assumption)
            have q106 : x14_2 < (x3_2.length : Int) := of_decide_eq_true (by first | (with_reducible assumption) | assumption)
            obtain ⟨ad106, e106, hx106_0⟩ := Kd.nd_ (Kd.ta_ HO_3.out).2.2 x14_2 p106 q106
            cases e106
            simp only [add_plain] at hx106_0
            replace p106 := eq_true p106
            replace q106 := eq_true q106
            have q6_ := eq_true (show x14_2 < 6 from of_decide_eq_true c8b0)
            refine mi_ (n := 18) (S := fun w' => w'.cell? ⟨w.heap.size + 1, (x14_2).toNat, none⟩ = some (.int .i64 (rd x3_2 x14_2))) (ds := [17]) #[false, false, false, false, false, false, false, false, false, false, false, false, false, false, false, false, false, false] (by kernel_rfl) rfl rfl (hx106_0) (fun hHeld => ?_); refine ni_ cc_.tab8 cc_.bits8 (fun HT_ HW_ => ?_)
            generalize wr.drew = w15 at HO_3 HB HZ hx106_0 hHeld ⊢
            refine id_ (i := 0) (N := some 17) (v := ?_) (a' := ?_) #[true, false, false, false, false, false, false, false, false, false, false, false, false, false, false, false, false, false] rfl rfl (td_ HT_.out (by kernel_rfl)) (fun _ _ _ h => h) (Or.inl ⟨by rfl, ?_⟩) ?_ ?_
            rotate_left
            ·intro w'
             go_simp
             with_reducible rfl
            rotate_left
            ·simp only [Act.put, List.setIfInBounds_toArray, List.set_cons_zero, List.set_cons_succ, gc_, lc_]
             rfl
            refine id_ (i := 1) (N := some 18) (v := ?_) (a' := ?_) #[true, true, false, false, false, false, false, false, false, false, false, false, false, false, false, false, false, false] rfl rfl (td_ HT_.out (by kernel_rfl)) (fun _ _ _ h => h) (Or.inl ⟨by rfl, ?_⟩) ?_ ?_
            rotate_left
            ·intro w'
             go_simp
             with_reducible rfl
            rotate_left
            ·simp only [Act.put, List.setIfInBounds_toArray, List.set_cons_zero, List.set_cons_succ, gc_, lc_]
             rfl
            refine id_ (i := 3) (N := some 20) (v := ?_) (a' := ?_) #[true, true, false, true, false, false, false, false, false, false, false, false, false, false, false, false, false, false] rfl rfl (td_ HT_.out (by kernel_rfl)) (fun _ _ _ h => h) (Or.inl ⟨by rfl, ?_⟩) ?_ ?_
            rotate_left
            ·intro w'
             go_simp
             with_reducible rfl
            rotate_left
            ·simp only [Act.put, List.setIfInBounds_toArray, List.set_cons_zero, List.set_cons_succ, gc_, lc_]
             rfl
            refine id_ (i := 4) (N := some 21) (v := ?_) (a' := ?_) #[true, true, false, true, true, false, false, false, false, false, false, false, false, false, false, false, false, false] rfl rfl (td_ HT_.out (by kernel_rfl)) (fun _ _ _ h => h) (Or.inl ⟨by rfl, ?_⟩) ?_ ?_
            rotate_left
            ·intro w'
             go_simp
             with_reducible rfl
            rotate_left
            ·simp only [Act.put, List.setIfInBounds_toArray, List.set_cons_zero, List.set_cons_succ, gc_, lc_]
             rfl
            refine id_ (i := 5) (N := some 22) (v := ?_) (a' := ?_) #[true, true, false, true, true, true, false, false, false, false, false, false, false, false, false, false, false, false] rfl rfl (td_ HT_.out (by kernel_rfl)) (fun _ _ _ h => h) (Or.inl ⟨by rfl, ?_⟩) ?_ ?_
            rotate_left
            ·intro w'
             go_simp
             with_reducible rfl
            rotate_left
            ·simp only [Act.put, List.setIfInBounds_toArray, List.set_cons_zero, List.set_cons_succ, gc_, lc_]
             rfl
            refine id_ (i := 6) (N := some 23) (v := ?_) (a' := ?_) #[true, true, false, true, true, true, true, false, false, false, false, false, false, false, false, false, false, false] rfl rfl (td_ HT_.out (by kernel_rfl)) (fun _ _ _ h => h) (Or.inl ⟨by rfl, ?_⟩) ?_ ?_
            rotate_left
            ·intro w'
             go_simp
             with_reducible rfl
            rotate_left
            ·simp only [Act.put, List.setIfInBounds_toArray, List.set_cons_zero, List.set_cons_succ, gc_, lc_]
             rfl
            refine id_ (i := 7) (N := some 24) (v := ?_) (a' := ?_) #[true, true, false, true, true, true, true, true, false, false, false, false, false, false, false, false, false, false] rfl rfl (td_ HT_.out (by kernel_rfl)) (fun _ _ _ h => h) (Or.inl ⟨by rfl, ?_⟩) ?_ ?_
            rotate_left
            ·intro w'
             go_simp
             with_reducible rfl
            rotate_left
            ·simp only [Act.put, List.setIfInBounds_toArray, List.set_cons_zero, List.set_cons_succ, gc_, lc_]
             rfl
            refine id_ (i := 8) (N := some 25) (v := ?_) (a' := ?_) #[true, true, false, true, true, true, true, true, true, false, false, false, false, false, false, false, false, false] rfl rfl (td_ HT_.out (by kernel_rfl)) (fun _ _ _ h => h) (Or.inl ⟨by rfl, ?_⟩) ?_ ?_
            rotate_left
            ·intro w'
             go_simp
             with_reducible rfl
            rotate_left
            ·simp only [Act.put, List.setIfInBounds_toArray, List.set_cons_zero, List.set_cons_succ, gc_, lc_]
             rfl
            refine id_ (i := 9) (N := some 26) (v := ?_) (a' := ?_) #[true, true, false, true, true, true, true, true, true, true, false, false, false, false, false, false, false, false] rfl rfl (td_ HT_.out (by kernel_rfl)) (fun _ _ _ h => h) (Or.inl ⟨by rfl, ?_⟩) ?_ ?_
            rotate_left
            ·intro w'
             go_simp
             with_reducible rfl
            rotate_left
            ·simp only [Act.put, List.setIfInBounds_toArray, List.set_cons_zero, List.set_cons_succ, gc_, lc_]
             rfl
            refine id_ (i := 10) (N := some 27) (v := ?_) (a' := ?_) #[true, true, false, true, true, true, true, true, true, true, true, false, false, false, false, false, false, false] rfl rfl (td_ HT_.out (by kernel_rfl)) (fun _ _ _ h => h) (Or.inl ⟨by rfl, ?_⟩) ?_ ?_
            rotate_left
            ·intro w'
             go_simp
             with_reducible rfl
            rotate_left
            ·simp only [Act.put, List.setIfInBounds_toArray, List.set_cons_zero, List.set_cons_succ, gc_, lc_]
             rfl
            refine id_ (i := 11) (N := some 28) (v := ?_) (a' := ?_) #[true, true, false, true, true, true, true, true, true, true, true, true, false, false, false, false, false, false] rfl rfl (td_ HT_.out (by kernel_rfl)) (fun _ _ _ h => h) (Or.inl ⟨by rfl, ?_⟩) ?_ ?_
            rotate_left
            ·intro w'
             go_simp
             with_reducible rfl
            rotate_left
            ·simp only [Act.put, List.setIfInBounds_toArray, List.set_cons_zero, List.set_cons_succ, gc_, lc_]
             rfl
            refine id_ (i := 12) (N := some 29) (v := ?_) (a' := ?_) #[true, true, false, true, true, true, true, true, true, true, true, true, true, false, false, false, false, false] rfl rfl (td_ HT_.out (by kernel_rfl)) (fun _ _ _ h => h) (Or.inl ⟨by rfl, ?_⟩) ?_ ?_
            rotate_left
            ·intro w'
             go_simp
             with_reducible rfl
            rotate_left
            ·simp only [Act.put, List.setIfInBounds_toArray, List.set_cons_zero, List.set_cons_succ, gc_, lc_]
             rfl
            refine bh_ (i := 2) (N := some 19) (v := ?_) (a' := ?_) #[true, true, true, true, true, true, true, true, true, true, true, true, true, false, false, false, false, false] rfl rfl (vg_ HT_.out HW_.out (by kernel_rfl)) (fun _ _ _ h => h) (Or.inl ⟨by rfl, ?_⟩) hHeld ?_ ?_
            rotate_left
            ·intro w' s0
             go_simp
             with_reducible rfl
            rotate_left
            ·simp only [Act.put, List.setIfInBounds_toArray, List.set_cons_zero, List.set_cons_succ, gc_, lc_]
             rfl
            refine one_ (i := 13) (N := some 30) #[true, true, true, true, true, true, true, true, true, true, true, true, true, true, false, false, false, false] rfl rfl (ah_ HT_.out (by kernel_rfl)) (by decide) (fun K hK => ?_)
            refine bk_ Try.func20 (by kernel_rfl) rfl #[.int .i64 (wrap64 ((wrap64 (x14_2 + 1)) * (wrap64 ((wrap64 ((l0.length : Int) - 1)) - x9_1))))] (by rfl) rfl rfl (by (try simp only [List.map_toArray, List.map_cons, List.map_nil]); first | done | rfl | (simp only [List.length_drop, List.length_take]; rfl)) ?_
            with_reducible refine (de_.calls (wrap64 ((wrap64 (x14_2 + 1)) * (wrap64 ((wrap64 ((l0.length : Int) - 1)) - x9_1)))) t107 _ A12.out).mono ?_
            rintro e w' ⟨rfl, ⟨nd, rfl⟩⟩
            refine ⟨_, rfl, ?_⟩
            refine hK.out _ _ (hHeld) (fun hHeld => ?_)
            clear hK K
            refine ej_ (a' := ?_) ?_ ?_
            rotate_left
            ·show Act.put _ (some 30) _ = _
             simp only [Act.put, List.setIfInBounds_toArray, List.set_cons_zero, List.set_cons_succ, gc_, lc_]
             rfl
            refine one_ (i := 14) (N := some 31) #[true, true, true, true, true, true, true, true, true, true, true, true, true, true, true, false, false, false] rfl rfl (ah_ HT_.out (by kernel_rfl)) (by decide) (fun K hK => ?_)
            refine bk_ Try.func15 (by kernel_rfl) rfl #[.int .i64 ji11, .int .i64 t107] (by rfl) rfl rfl (by (try simp only [List.map_toArray, List.map_cons, List.map_nil]); first | done | (simp only [hji11]; rfl) | rfl | (simp only [List.length_drop, List.length_take]; rfl)) ?_
            with_reducible refine (ud_.calls ji11 t107 t108 _ A13.out).mono ?_
            rintro e w' ⟨rfl, ⟨nd, rfl⟩⟩
            refine ⟨_, rfl, ?_⟩
            have p14 : 0 ≤ (x14_2 : Int) := of_decide_eq_true (by first | (with_reducible assumption) | assumption)
            have q14 : (x14_2 : Int) < ((6 : Nat) : Int) := by have := of_decide_eq_true c8b0; omega
            obtain ⟨go14, co14, eo14, gb14, gl14, cl14, HG14⟩ := Kd.yg_ HO_3.out (by rw [(dp_ HO_3.out (by decide)).2]; decide)
            obtain ⟨hg14_, hc14_⟩ : go14 = w.heap.size + 1 ∧ co14 = 6 := by injection eo14 with a_ b_ c_; injection a_ with a_; injection a_ with a_; exact ⟨a_.symm, c_.symm⟩
            subst hg14_; subst hc14_
            have HN := ba_.mk (show w.heap.size ≠ w.heap.size + 1 from by omega)
            have GB14 := ba_.mk gb14
            have GG14 := ba_.mk HG14
            clear gb14 gl14 HG14
            (first | simp only [add_plain] at hx106_0 | skip)
            obtain ⟨hx14_0, hf14_0⟩ := Kd.of_ 0 HO_3.out (x14_2 : Int) p14 q14
            replace p14 := eq_true p14
            replace q14 := eq_true q14
            have HP17 := Kd.bm_ HO_3.out (x14_2 : Int) (Go.bits .xor .i64 (rd x3_2 x14_2) t108)
            rw [← Ny109.out] at HP17
            have HQ17 := ba_.mk HP17
            clear HP17
            refine hK.out _ _ (hHeld) (fun hHeld => ?_)
            clear hK K
            refine ej_ (a' := ?_) ?_ ?_
            rotate_left
            ·show Act.put _ (some 31) _ = _
             simp only [Act.put, List.setIfInBounds_toArray, List.set_cons_zero, List.set_cons_succ, gc_, lc_]
             rfl
            refine id_ (i := 15) (N := some 32) (v := ?_) (a' := ?_) #[true, true, true, true, true, true, true, true, true, true, true, true, true, true, true, true, false, false] rfl rfl (td_ HT_.out (by kernel_rfl)) (fun _ _ _ h => h) (Or.inl ⟨by rfl, ?_⟩) ?_ ?_
            rotate_left
            ·intro w'
             go_simp
             with_reducible rfl
            rotate_left
            ·simp only [Act.put, List.setIfInBounds_toArray, List.set_cons_zero, List.set_cons_succ, gc_, lc_]
             rfl
            refine id_ (i := 16) (N := some 33) (v := ?_) (a' := ?_) #[true, true, true, true, true, true, true, true, true, true, true, true, true, true, true, true, true, false] rfl rfl (td_ HT_.out (by kernel_rfl)) (fun _ _ _ h => h) (Or.inl ⟨by rfl, ?_⟩) ?_ ?_
            rotate_left
            ·intro w'
             go_simp
             with_reducible rfl
            rotate_left
            ·simp only [Act.put, List.setIfInBounds_toArray, List.set_cons_zero, List.set_cons_succ, gc_, lc_]
             rfl
            refine im_ (i := 17) (N := none) #[true, true, true, true, true, true, true, true, true, true, true, true, true, true, true, true, true, true] rfl rfl (ah_ HT_.out (by kernel_rfl)) (by decide) (fun K hK => ?_)
            refine lm_ (w1 := ?_) (by rfl) rfl ?_ ?_
            rotate_left
            ·go_simp
             rfl
            refine hK.out _ _ ?_
            clear hK K
            refine ik_ (jk_ HT_.out (by kernel_rfl)) ?_
            try go_wp2
            go_roundg k2
            case measure => have := HK1.out; have := HK2.out; omega
            case rel => exact ⟨(y109), (wrap64 (x14_2 + 1)), (by first | rfl | (simp; done) | (simp [*]; done)), H', ⟨by have := HK1.out; have := HK2.out; omega⟩, ⟨by (with_reducible repeat (first | apply Kd.la_ | apply Kd.ka_ | apply Kd.ma_)); exact HQ17.out⟩, ⟨by first | exact HZ.out | exact (heap_setCell_other _ _ _ _ HN.out).trans HZ.out⟩, ⟨by repeat (first | (with_reducible first | exact HB.out | apply fa_ | apply ca_ | apply ga_ | refine qa_ ?_ GB14.out) | exact HB.out)⟩⟩
           ·rw [if_neg c10] at H
            exact absurd H (by simp)
          ·rw [if_neg c9] at H
           exact absurd H (by simp)
         ·rw [if_neg c8] at H
          have c8b0 : decide (x14_2 < 6) = false := decide_eq_false c8
          clear c8
          have H' := ba_.mk H
          clear H
          go_wp2
          go_roundg k2
          case measure => have := HK1.out; have := HK2.out; omega
          case rel => exact ⟨(x3_2), (wrap64 (x9_1 + 1)), (by first | rfl | (simp; done) | (simp [*]; done)), H', ⟨by have := HK1.out; have := HK2.out; omega⟩, ⟨by (with_reducible repeat (first | apply Kd.la_ | apply Kd.ka_ | apply Kd.ma_)); exact HO_3.out⟩, ⟨by first | exact HZ.out | exact (heap_setCell_other _ _ _ _ HN.out).trans HZ.out⟩, ⟨by repeat (first | (with_reducible first | exact HB.out | apply fa_ | apply ca_ | apply ga_) | exact HB.out)⟩⟩
      ·rw [if_neg c7] at H
       exact absurd H (by simp)
     ·rw [if_neg c6] at H
      exact absurd H (by simp)
    ·rw [if_neg c5] at H
     have c5b0 : decide (x9_1 < (l0.length : Int)) = false := decide_eq_false c5
     clear c5
     have HR9 := ba_.mk (Option.some.inj H)
     clear H
     have HB3 := ba_.mk (dp_ HO_3.out (by decide)).1
     have HL3 := ba_.mk (dp_ HO_3.out (by decide)).2
     have HS3 := ba_.mk (show (Try.prog.info? 58).map (·.size) = some (nums .i64 x3_1).toArray.size from by rw [show (nums .i64 x3_1).toArray.size = 6 from by simp [nums, HL3.out]]; kernel_rfl)
     have HT3 := ba_.mk (show (6 : Nat) = (nums .i64 x3_1).toArray.size from by simp [nums, HL3.out])
     have HU3 := ba_.mk (show (nums .i64 x3_1).toArray.all (·.oneCell') = true from by simp [nums, Value.oneCell'])
     go_wp2_with (first | (refine wpList_load_row rfl 58 _ rfl (w.heap.size + 1) rfl 58 (nums .i64 x3_1).toArray (0, 0) _ HB3.out Try.underlying58 rfl HS3.out ?_) | (refine wpList_store_row rfl 58 _ _ rfl w.heap.size (nums .i64 x3_1).toArray rfl rfl 58 _ HZ.out HS3.out HT3.out HU3.out ?_))
     refine bodyPost_ret (v := .agg (nums .i64 x3_1).toArray) (results_cell_row rfl _ _ w.heap.size 58 _ (0, 0) _ rfl (setRow_heap _ _ _ _ _ _ HZ.out) Try.underlying58 rfl HS3.out) rfl ⟨by rw [HR9.out], below_setRow HB.out (Nat.le_refl _) _⟩
 ·rw [if_neg c2] at H
  exact absurd H (by simp)
end Go.Proofs.Ytpkhgapifnjbeaa.S
end
section
namespace Go.Proofs.Ytpkhgapifnjbeaa.S
open Go.RowKit Go.Proofs.Ytpkhgapifnjbeaa.G Go.Proofs.YtpkhgapifnjbeaaW.PrintWords Go.Proofs.YtpkhgapifnjbeaaW.PrintLast Go.Proofs.YtpkhgapifnjbeaaW.PrintMore
attribute [local go_sem] dd_ fd_ rd_ sd_ uc_ vc_ ed_ gd_
set_option linter.unusedVariables false
set_option linter.unusedSimpArgs false
end Go.Proofs.Ytpkhgapifnjbeaa.S
end
section
namespace Go.Proofs.Ytpkhgapifnjbeaa.G
set_option linter.unusedVariables false
set_option linter.unusedSimpArgs false
open Go.RowKit Go.Proofs.YtpkhgapifnjbeaaW.PrintWords Go.Proofs.YtpkhgapifnjbeaaW.PrintLast Go.Proofs.YtpkhgapifnjbeaaW.PrintMore
structure Mat (W : World) (base g R C : Nat) (h cc : Nat → Nat) (M : Nat → Nat → Int) : Prop where
 out : ∀ i, i < R → W.cell? ⟨g, i, none⟩ = some (.slice (some ⟨h i, 0, none⟩) C (cc i))
 fro : ∀ i, i < R → W.frozen? ⟨g, i, none⟩ = false
 cel : ∀ i k, i < R → k < C → W.cell? ⟨h i, k, none⟩ = some (.int .i64 (M i k))
 frc : ∀ i k, i < R → k < C → W.frozen? ⟨h i, k, none⟩ = false
 ne : ∀ i, i < R → h i ≠ g
 inj : ∀ i j, i < R → j < R → h i = h j → i = j
 lo : ∀ i, i < R → base ≤ h i
 lg : base ≤ g
def updM (M : Nat → Nat → Int) (i k : Nat) (x : Int) : Nat → Nat → Int := fun i' k' => if i' = i ∧ k' = k then x else M i' k'
def qh_ {α : Type} (f : Nat → α) (a b : Nat) : Nat → α := fun i => if i = a then f b else if i = b then f a else f i
section
variable {W W1 : World} {base g R C : Nat} {h cc : Nat → Nat} {M : Nat → Nat → Int}
theorem Mat.same (H : Mat W base g R C h cc M) (hc : ∀ a, W1.cell? a = W.cell? a) (hf : ∀ a, W1.frozen? a = W.frozen? a) : Mat W1 base g R C h cc M :=
 ⟨fun i hi => (hc _).trans (H.out i hi), fun i hi => (hf _).trans (H.fro i hi), fun i k hi hk => (hc _).trans (H.cel i k hi hk), fun i k hi hk => (hf _).trans (H.frc i k hi hk), H.ne, H.inj, H.lo, H.lg⟩
theorem Mat.drewN (H : Mat W base g R C h cc M) (n : Nat) : Mat (W.drewN n) base g R C h cc M := H.same (fun _ => rfl) (fun _ => rfl)
theorem Mat.drew (H : Mat W base g R C h cc M) : Mat W.drew base g R C h cc M := H.same (fun _ => rfl) (fun _ => rfl)
theorem Mat.below (H : Mat W base g R C h cc M) (hb : Below W.heap.size W W1) : Mat W1 base g R C h cc M := by
 have hlt : ∀ a v, W.cell? a = some v → a.block < W.heap.size := fun a v hv => World.block_lt_of_cell? W a hv
 refine ⟨fun i hi => (hb.cell (hlt _ _ (H.out i hi))).trans (H.out i hi), fun i hi => (hb.frozen (hlt _ _ (H.out i hi))).trans (H.fro i hi), fun i k hi hk => (hb.cell (hlt _ _ (H.cel i k hi hk))).trans (H.cel i k hi hk), fun i k hi hk => (hb.frozen (hlt _ _ (H.cel i k hi hk))).trans (H.frc i k hi hk), H.ne, H.inj, H.lo, H.lg⟩
theorem Mat.set (H : Mat W base g R C h cc M) (i k : Nat) (hi : i < R) (hk : k < C) (x : Int) : Mat (W.setCell ⟨h i, k, none⟩ (.int .i64 x)) base g R C h cc (updM M i k x) := by
 refine ⟨fun i' hi' => ?_, fun i' hi' => ?_, fun i' k' hi' hk' => ?_, fun i' k' hi' hk' => ?_, H.ne, H.inj, H.lo, H.lg⟩
 ·rw [World.cell?_setCell_other _ _ _ _ (by intro e; simp only [Addr.mk.injEq] at e; exact H.ne i hi e.1)]
  exact H.out i' hi'
 ·rw [World.frozen?_setCell]; exact H.fro i' hi'
 ·by_cases e : i' = i ∧ k' = k
  ·obtain ⟨rfl, rfl⟩ := e
   rw [World.cell?_setCell_same _ _ _ (H.cel _ _ hi hk)]
   simp [updM]
  ·rw [World.cell?_setCell_other _ _ _ _ (by intro q; simp only [Addr.mk.injEq] at q; exact e ⟨(H.inj _ _ hi hi' q.1).symm, q.2.1.symm⟩), H.cel i' k' hi' hk']
   simp [updM, e]
 ·rw [World.frozen?_setCell]; exact H.frc i' k' hi' hk'
theorem Mat.congr {M' : Nat → Nat → Int} (H : Mat W base g R C h cc M) (e : ∀ i k, i < R → k < C → M i k = M' i k) : Mat W base g R C h cc M' :=
 ⟨H.out, H.fro, fun i k hi hk => by rw [← e i k hi hk]; exact H.cel i k hi hk, H.frc, H.ne, H.inj, H.lo, H.lg⟩
theorem Mat.ne1_ (H : Mat W base g R C h cc M) (a b : Nat) (ha : a < R) (hb : b < R) :
  ∀ i, i < R → ((W.setCell ⟨g, a, none⟩ (.slice (some ⟨h b, 0, none⟩) C (cc b))).setCell ⟨g, b, none⟩ (.slice (some ⟨h a, 0, none⟩) C (cc a))).cell? ⟨g, i, none⟩ = some (.slice (some ⟨qh_ h a b i, 0, none⟩) C (qh_ cc a b i)) := by
 intro i hi
 have h1 : ∀ v, (W.setCell ⟨g, a, none⟩ v).cell? ⟨g, b, none⟩ = some (if a = b then v else .slice (some ⟨h b, 0, none⟩) C (cc b)) := by
  intro v
  by_cases e : a = b
  ·subst e; rw [World.cell?_setCell_same _ _ _ (H.out a ha), if_pos rfl]
  ·rw [World.cell?_setCell_other _ _ _ _ (by intro q; simp only [Addr.mk.injEq] at q; exact e q.2.1), if_neg e]; exact H.out b hb
 by_cases e : i = b
 ·subst e
  rw [World.cell?_setCell_same _ _ _ (h1 _)]
  by_cases e2 : i = a <;> simp [qh_, e2]
 ·rw [World.cell?_setCell_other _ _ _ _ (by intro q; simp only [Addr.mk.injEq] at q; exact e q.2.1.symm)]
  by_cases e2 : i = a
  ·subst e2
   rw [World.cell?_setCell_same _ _ _ (H.out i hi)]
   simp [qh_]
  ·rw [World.cell?_setCell_other _ _ _ _ (by intro q; simp only [Addr.mk.injEq] at q; exact e2 q.2.1.symm), H.out i hi]
   simp [qh_, e, e2]
theorem xo_ {α : Type} {f : Nat → α} {a b i R : Nat} {p : α → Prop} (hp : ∀ i, i < R → p (f i)) (ha : a < R) (hb : b < R) (hi : i < R) : p (qh_ f a b i) := by
 unfold qh_
 split
 ·exact hp b hb
 ·split
  ·exact hp a ha
  ·exact hp i hi
theorem Mat.swap (H : Mat W base g R C h cc M) (a b : Nat) (ha : a < R) (hb : b < R) :
  Mat ((W.setCell ⟨g, a, none⟩ (.slice (some ⟨h b, 0, none⟩) C (cc b))).setCell ⟨g, b, none⟩ (.slice (some ⟨h a, 0, none⟩) C (cc a))) base g R C (qh_ h a b) (qh_ cc a b) (qh_ M a b) := by
 have hne : ∀ i, i < R → qh_ h a b i ≠ g := fun i hi => xo_ (p := fun x => x ≠ g) H.ne ha hb hi
 have hpair : ∀ i, i < R → ∃ j, j < R ∧ qh_ h a b i = h j ∧ qh_ M a b i = M j ∧ (i = a ∧ j = b ∨ i ≠ a ∧ i = b ∧ j = a ∨ i ≠ a ∧ i ≠ b ∧ j = i) := by
  intro i hi
  unfold qh_
  by_cases e1 : i = a
  ·exact ⟨b, hb, by simp [e1], by simp [e1], .inl ⟨e1, rfl⟩⟩
  ·by_cases e2 : i = b
   ·exact ⟨a, ha, by rw [if_neg e1, if_pos e2], by rw [if_neg e1, if_pos e2], .inr (.inl ⟨e1, e2, rfl⟩)⟩
   ·exact ⟨i, hi, by rw [if_neg e1, if_neg e2], by rw [if_neg e1, if_neg e2], .inr (.inr ⟨e1, e2, rfl⟩)⟩
 refine ⟨H.ne1_ a b ha hb, fun i hi => ?_, fun i k hi hk => ?_, fun i k hi hk => ?_, hne, fun i j hi hj e => ?_, fun i hi => xo_ (p := fun x => base ≤ x) H.lo ha hb hi, H.lg⟩
 ·rw [World.frozen?_setCell, World.frozen?_setCell]; exact H.fro i hi
 ·obtain ⟨j, hj, e1, e2, _⟩ := hpair i hi
  have hn := H.ne j hj
  rw [e1, e2, World.cell?_setCell_other _ _ _ _ (by intro q; simp only [Addr.mk.injEq] at q; exact hn q.1.symm), World.cell?_setCell_other _ _ _ _ (by intro q; simp only [Addr.mk.injEq] at q; exact hn q.1.symm)]
  exact H.cel j k hj hk
 ·obtain ⟨j, hj, e1, _, _⟩ := hpair i hi
  rw [e1, World.frozen?_setCell, World.frozen?_setCell]
  exact H.frc j k hj hk
 ·obtain ⟨i', hi', e1, _, c1⟩ := hpair i hi
  obtain ⟨j', hj', e2, _, c2⟩ := hpair j hj
  rw [e1, e2] at e
  have := H.inj i' j' hi' hj' e
  omega
end
theorem fw_ {α : Type} [Inhabited α] {n : Nat} {P : Nat → α → Prop} (h : ∀ i, i < n → ∃ x, P i x) : ∃ F : Nat → α, ∀ i, i < n → P i (F i) := by
 classical
 refine ⟨fun i => if hi : i < n then Classical.choose (h i hi) else default, fun i hi => ?_⟩
 simp only [hi, dif_pos]
 exact Classical.choose_spec (h i hi)
theorem jb1_ {W : World} {base e1 e2 C : Nat} {ok : Nat → Prop} {v : Value} {xs : List (List Int)} (H : Kd.S (Kd.slice e2 (Kd.int .i64)) e1 W base ok v xs) (hR : 0 < xs.length) (hC : ∀ x, x ∈ xs → x.length = C) (hC0 : 0 < C) :
  ∃ g cap h cc, v = .slice (some ⟨g, 0, none⟩) xs.length cap ∧ Mat W base g xs.length C h cc (fun i k => (xs.getD i []).getD k 0) := by
 obtain ⟨f, h0, inner, ho, hr⟩ := H
 have hsz : ((Kd.slice e2 (Kd.int .i64)).tag f).sz = 1 := rfl
 rw [List.length_zipIdx, hsz] at ho
 rcases ho with ⟨hlen, ⟨_, hn⟩ | ⟨g, cap, cur, rfl, hb, hg, h1, h2, h3, h4⟩⟩
 ·omega
 have hrow : ∀ i, i < xs.length → ∃ p : Nat × Nat, inner[i]? = some (.slice (some ⟨p.1, 0, none⟩) C p.2) ∧ Kd.R (Kd.int .i64) e2 W base (fun k => (ok k ∧ some k ≠ some g) ∧ f k = i) (.slice (some ⟨p.1, 0, none⟩) C p.2) (xs.getD i []) ∧ base ≤ p.1 := by
  intro i hi
  have hx : xs[i]? = some (xs.getD i []) := by rw [List.getD_eq_getElem?_getD, List.getElem?_eq_getElem hi]; rfl
  have hm := hr.2 i (xs.getD i [], i) (Kd.oa1_ hx)
  rw [hsz, Nat.mul_one] at hm
  obtain ⟨vi, hcs, hR1⟩ := hm
  have hxl : (xs.getD i []).length = C := hC _ (List.mem_iff_getElem?.2 ⟨i, hx⟩)
  obtain ⟨hg1, c1, he, hb1, _⟩ := Kd.yg_ hR1 (by rw [hxl]; exact hC0)
  rw [hxl] at he
  subst he
  refine ⟨(hg1, c1), ?_, hR1, hb1⟩
  have : (List.take 1 (List.drop i inner))[0]? = some (.slice (some ⟨hg1, 0, none⟩) C c1) := by rw [hcs]; rfl
  rw [List.getElem?_take] at this
  simpa using this
 obtain ⟨F, hF⟩ := fw_ hrow
 have hcell : ∀ j, W.cell? ⟨g, j, none⟩ = cur[j]? := fun j => cell_of_row W g j cur e1 (0, 0) hg
 refine ⟨g, cap, fun i => (F i).1, fun i => (F i).2, rfl, fun i hi => ?_, fun i hi => frozen_of_row W g i cur e1 hg, fun i k hi hk => ?_, fun i k hi hk => ?_, fun i hi => ?_, fun i j hi hj e => ?_, fun i hi => (hF i hi).2.2, hb⟩
 ·rw [hcell, ← (hF i hi).1, ← h4]
  rw [List.getElem?_take, if_pos (by omega), Array.getElem?_toList]
 ·have := (Kd.of_ 0 (hF i hi).2.1 (k : Int) (by omega) (by omega)).1
  rw [Int.toNat_natCast] at this
  rw [this]
  simp [rdOf, List.getD_eq_getElem?_getD]
 ·have := (Kd.of_ 0 (hF i hi).2.1 (k : Int) (by omega) (by omega)).2
  rwa [Int.toNat_natCast] at this
 ·have := (hF i hi).2.1.1 (F i).1 rfl
  intro e
  exact this.1.2 (by rw [e])
 ·have a := (hF i hi).2.1.1 (F i).1 rfl
  have b := (hF j hj).2.1.1 (F j).1 rfl
  have e' : (F i).1 = (F j).1 := e
  rw [e'] at a
  exact a.2.symm.trans b.2
end Go.Proofs.Ytpkhgapifnjbeaa.G
end
section
namespace Go.Proofs.Ytpkhgapifnjbeaa.G
set_option linter.unusedVariables false
set_option linter.unusedSimpArgs false
open Go.RowKit Go.Proofs.Ytpkhgapifnjbeaa.Rs
def pivot (M : Nat → Nat → Int) (c R : Nat) : Nat := ((List.range R).find? (fun i => decide (c ≤ i) && decide (M i c ≠ 0))).getD R
theorem to_ {M : Nat → Nat → Int} {c R r : Nat} (h1 : c ≤ r) (h2 : r ≤ R) (h3 : ∀ i, c ≤ i → i < r → M i c = 0) (h4 : r < R → M r c ≠ 0) : pivot M c R = r := by
 unfold pivot
 by_cases h : r < R
 ·have : (List.range R).find? (fun i => decide (c ≤ i) && decide (M i c ≠ 0)) = some r := by
   rw [List.find?_range_eq_some]
   refine ⟨by simp [h1, h4 h], by simpa using h, fun j hj => ?_⟩
   by_cases hc : c ≤ j
   ·simp [h3 j hc hj]
   ·simp [hc]
  rw [this]; rfl
 ·have hr : r = R := by omega
  subst hr
  have : (List.range r).find? (fun i => decide (c ≤ i) && decide (M i c ≠ 0)) = none := by
   rw [List.find?_range_eq_none]
   intro j hj
   by_cases hc : c ≤ j
   ·simp [h3 j hc hj]
   ·simp [hc]
  rw [this]; rfl
def fk_ (M : Nat → Nat → Int) (c : Nat) (b : Int) : Nat → Nat → Int := fun i k => if i = c then mulI (M i k) b else M i k
def on_ (M : Nat → Nat → Int) (c : Nat) : Nat → Nat → Int := fun i k => if i ≠ c ∧ M i c ≠ 0 then xorI (M i k) (mulI (M i c) (M c k)) else M i k
def oq_ (M : Nat → Nat → Int) (c p : Nat) : Nat → Nat → Int := on_ (fk_ (qh_ M c p) c (invI (qh_ M c p c c))) c
def gjI (R : Nat) (M0 : Nat → Nat → Int) : Nat → Option (Nat → Nat → Int)
 | 0 => some M0
 | c + 1 => match gjI R M0 c with
  | none => none
  | some M => if pivot M c R = R then none else some (oq_ M c (pivot M c R))
def qi_ (M : Nat → Nat → Int) (c i : Nat) : Nat → Nat → Int := fun i' k => if i' < i then on_ M c i' k else M i' k
def zh_ (M : Nat → Nat → Int) (c i k : Nat) : Nat → Nat → Int := fun i' k' => if i' = i then (if k' < k then xorI (M i k') (mulI (M i c) (M c k')) else M i k') else qi_ M c i i' k'
def vi_ (M : Nat → Nat → Int) (c : Nat) (b : Int) (k : Nat) : Nat → Nat → Int := fun i k' => if i = c ∧ k' < k then mulI (M i k') b else M i k'
theorem io_ (M : Nat → Nat → Int) (c : Nat) (b : Int) : vi_ M c b 0 = M := by funext i k; simp [vi_]
theorem ho_ (M : Nat → Nat → Int) (c : Nat) (b : Int) (k : Nat) : updM (vi_ M c b k) c k (mulI (M c k) b) = vi_ M c b (k + 1) := by
 funext i k'
 simp only [updM, vi_]
 by_cases h1 : i = c <;> by_cases h2 : k' = k
 ·subst h1; subst h2; simp
 ·have : k' < k + 1 ↔ k' < k := by omega
  simp [h1, h2, this]
 ·simp [h1]
 ·simp [h1]
theorem kr_ (M : Nat → Nat → Int) (c : Nat) (b : Int) (k : Nat) : vi_ M c b k c k = M c k := by simp [vi_]
theorem kp_ (M : Nat → Nat → Int) (c : Nat) : qi_ M c 0 = M := by funext i k; simp [qi_]
theorem lk_ (M : Nat → Nat → Int) (c i : Nat) (h : i = c ∨ M i c = 0) : qi_ M c (i + 1) = qi_ M c i := by
 funext i' k
 simp only [qi_]
 by_cases h1 : i' < i
 ·rw [if_pos (by omega), if_pos h1]
 ·by_cases h2 : i' = i
  ·subst h2
   rw [if_pos (by omega), if_neg h1]
   unfold on_
   rw [if_neg (by rcases h with h | h <;> simp [h])]
  ·rw [if_neg (by omega), if_neg h1]
theorem al_ (M : Nat → Nat → Int) (c i k : Nat) : qi_ M c i i k = M i k := by simp [qi_]
theorem ww_ (M : Nat → Nat → Int) (c i k : Nat) : qi_ M c i c k = M c k := by
 unfold qi_ on_
 simp
theorem ao_ (M : Nat → Nat → Int) (c i : Nat) : zh_ M c i 0 = qi_ M c i := by
 funext i' k
 simp only [zh_]
 by_cases h : i' = i
 ·subst h; simp [al_]
 ·rw [if_neg h]
theorem pl_ (M : Nat → Nat → Int) (c i k : Nat) : zh_ M c i k i k = M i k := by simp [zh_]
theorem kk_ (M : Nat → Nat → Int) (c i k k' : Nat) (h : i ≠ c) : zh_ M c i k c k' = M c k' := by
 unfold zh_
 rw [if_neg (Ne.symm h), ww_]
theorem zn_ (M : Nat → Nat → Int) (c i k : Nat) : updM (zh_ M c i k) i k (xorI (M i k) (mulI (M i c) (M c k))) = zh_ M c i (k + 1) := by
 funext i' k'
 simp only [updM, zh_]
 by_cases h1 : i' = i <;> by_cases h2 : k' = k
 ·subst h1; subst h2; simp
 ·have : k' < k + 1 ↔ k' < k := by omega
  simp [h1, h2, this]
 ·simp [h1]
 ·simp [h1]
theorem jp_ (M : Nat → Nat → Int) (c i C : Nat) (hi : i ≠ c) (hz : M i c ≠ 0) : ∀ i' k, k < C → zh_ M c i C i' k = qi_ M c (i + 1) i' k := by
 intro i' k hk
 simp only [zh_, qi_]
 by_cases h1 : i' = i
 ·subst h1
  simp [hk, on_, hi, hz]
 ·by_cases h2 : i' < i
  ·simp [h1, h2, Nat.lt_succ_of_lt h2]
  ·simp [h1, h2, show ¬ i' < i + 1 by omega]
theorem yq_ (M N : Nat → Nat → Int) (c R C : Nat) (hN : ∀ i k, k < C → M i k = N i k) (hc : c < C) : ∀ i k, i < R → k < C → qi_ M c R i k = on_ N c i k := by
 intro i k hi hk
 simp only [qi_, on_]
 rw [if_pos hi, hN i c hc, hN i k hk, hN c k hk]
theorem zp_ (M : Nat → Nat → Int) (c : Nat) (b : Int) (C : Nat) : ∀ i k, k < C → vi_ M c b C i k = fk_ M c b i k := by
 intro i k hk
 simp [vi_, fk_, hk]
def zl_ (M : Nat → Nat → Int) (n i : Nat) : List Int := (List.range n).map fun j => if j < i then M j n else 0
theorem do_ (M : Nat → Nat → Int) (n i : Nat) : (zl_ M n i).length = n := by simp [zl_]
theorem hx_ (M : Nat → Nat → Int) (n : Nat) : zl_ M n 0 = List.replicate n 0 := by
 apply List.ext_getElem <;> simp [zl_]
theorem gx_ (M : Nat → Nat → Int) (n i : Nat) : (zl_ M n i).set i (M i n) = zl_ M n (i + 1) := by
 apply List.ext_getElem
 ·simp [zl_]
 ·intro j h1 h2
  rw [List.getElem_set]
  simp only [zl_, List.getElem_map, List.getElem_range]
  by_cases e : i = j
  ·subst e; simp
  ·rw [if_neg e]
   have : j < i + 1 ↔ j < i := by omega
   simp [this]
theorem fx_ (M : Nat → Nat → Int) (n i : Nat) (h : n ≤ i) : zl_ M n (i + 1) = zl_ M n i := by
 apply List.ext_getElem
 ·simp [zl_]
 ·intro j h1 h2
  simp [zl_] at h1 ⊢
  simp [show j < i + 1 by omega, show j < i by omega]
theorem rz_ (M : Nat → Nat → Int) (n i : Nat) (h : n ≤ i) : zl_ M n i = (List.range n).map fun j => M j n := by
 apply List.ext_getElem
 ·simp [zl_]
 ·intro j h1 h2
  simp [zl_] at h1 ⊢
  intro h3
  omega
end Go.Proofs.Ytpkhgapifnjbeaa.G
end
section
namespace Go.Proofs.Ytpkhgapifnjbeaa.G
set_option linter.unusedVariables false
set_option linter.unusedSimpArgs false
open Go.RowKit Go.Proofs.YtpkhgapifnjbeaaW.PrintWords Go.Proofs.YtpkhgapifnjbeaaW.PrintLast Go.Proofs.YtpkhgapifnjbeaaW.PrintMore Go.Proofs.Ytpkhgapifnjbeaa.Rs
theorem jt_ (x : Int) (W : World) : Sem.run Try.prog (method 197 57 (.int .i64 x) "awardingbody/rscode.inverse") W = .ok (86, .int .i64 x) W := by kernel_rfl
theorem ar_ (x : Int) (W : World) : Sem.run Try.prog (method 197 57 (.int .i64 x) "awardingbody/rscode.times") W = .ok (66, .int .i64 x) W := by kernel_rfl
theorem nz_ (x : Int) (W : World) : Sem.run Try.prog (method 197 57 (.int .i64 x) "awardingbody/rscode.plus") W = .ok (65, .int .i64 x) W := by kernel_rfl
def solR (R n : Nat) (M : Nat → Nat → Int) : List Int × Bool :=
 match gjI R M n with
 | none => ([], false)
 | some M' => if ((List.range R).all fun i => decide (i < n) || decide (M' i n = 0)) = true then ((List.range n).map fun i => M' i n, true) else ([], false)
theorem cw_ {R : Nat} {M M' : Nat → Nat → Int} {c : Nat} (h : gjI R M c = some M') (hp : pivot M' c R = R) : ∀ d, gjI R M (c + 1 + d) = none := by
 intro d
 induction d with
 | zero => simp [gjI, h, hp]
 | succ d ih => rw [show c + 1 + (d + 1) = (c + 1 + d) + 1 from rfl, gjI, ih]
theorem ia1_ {R n : Nat} {M M' : Nat → Nat → Int} {c : Nat} (h : gjI R M c = some M') (hp : pivot M' c R = R) (hc : c < n) : solR R n M = ([], false) := by
 unfold solR
 have := cw_ h hp (n - (c + 1))
 rw [show c + 1 + (n - (c + 1)) = n from by omega] at this
 rw [this]
theorem wq_ {W : World} {p : Addr} {u : Value} (h : W.cell? p = some u) (q : Addr) (x : Value) : ∃ v, (W.setCell q x).cell? p = some v := by
 by_cases e : q = p
 ·subst e; exact ⟨x, World.cell?_setCell_same _ _ _ h⟩
 ·exact ⟨u, (World.cell?_setCell_other _ _ _ _ e).trans h⟩
theorem jw_ {R n i : Nat} {M M' : Nat → Nat → Int} (h : gjI R M n = some M') (hi : i < R) (hn : n ≤ i) (hz : M' i n ≠ 0) : solR R n M = ([], false) := by
 unfold solR
 rw [h]
 simp only
 rw [if_neg]
 intro hh
 have := List.all_eq_true.1 hh i (by simpa using hi)
 simp [hz] at this
 omega
theorem gn_ {R n : Nat} {M M' : Nat → Nat → Int} (h : gjI R M n = some M') (hz : ∀ i, n ≤ i → i < R → M' i n = 0) : solR R n M = ((List.range n).map fun i => M' i n, true) := by
 unfold solR
 rw [h]
 simp only
 rw [if_pos]
 refine List.all_eq_true.2 fun i hi => ?_
 by_cases hin : i < n
 ·simp [hin]
 ·simp [hz i (by omega) (by simpa using hi)]
def cy_ (T base R n : Nat) (M : Nat → Nat → Int) (w : World) (e : Ending) (w' : World) : Prop :=
 ∃ v0_ : Value, e = .returned (.tuple #[v0_, .bool (solR R n M).2]) ∧ Kd.R (Kd.int .i64) T w' w.heap.size (fun _ => True) v0_ (solR R n M).1 ∧ Below base w w'
set_option maxHeartbeats 4000000 in
set_option maxRecDepth 100000 in
theorem wx_ (base g R n cap : Nat) (h cc : Nat → Nat) (M : Nat → Nat → Int) (w : World) (HM0 : Mat w base g R (n + 1) h cc M) (hR : 1 ≤ R) (hR2 : R ≤ 100) (hn : n ≤ 100) (hbase : base ≤ w.heap.size) :
  Calls Try.prog 63 #[.slice (some ⟨g, 0, none⟩) R cap] w (cy_ 57 base R n M w) := by
 have HM := Lib.hid HM0
 clear HM0
 have f0 := HM.out.out 0 (by omega)
 go_enter Try.func63, Try.ntmps63
 go_wp2
 go_loopw [22] (fun v wr => ∃ c : Nat, c ≤ n ∧ c ≤ R ∧ v = .int .i64 c ∧ ∃ (h cc : Nat → Nat) (M' : Nat → Nat → Int), Hid (gjI R M c = some M') ∧ Hid (Mat wr base g R (n + 1) h cc M') ∧ Hid (Below base w wr)) (fun v _ => n - (intOf v).toNat)
 case atStart => exact ⟨0, Nat.zero_le _, Nat.zero_le _, rfl, h, cc, M, Lib.hid rfl, HM, Lib.hid (Below.refl _ _)⟩
 case round =>
  clear f0 HM
  obtain ⟨c, hc, hcR, rfl, h, cc, M1, HG, HM, HB⟩ := hrel
  obtain ⟨wo, rfl⟩ : ∃ wo : World, wo = wr := ⟨_, rfl⟩
  by_cases hcn : c < n
  ·go_wp2
   go_loop [7] (fun v => ∃ r : Nat, c ≤ r ∧ r ≤ R ∧ v = .int .i64 r ∧ Hid (∀ i, c ≤ i → i < r → M1 i c = 0)) (fun v => R - (intOf v).toNat)
   case atStart => exact ⟨c, Nat.le_refl _, hcR, rfl, Lib.hid (fun i h1 h2 => by omega)⟩
   case round =>
    obtain ⟨r, hr1, hr2, rfl, HZ⟩ := hrel
    by_cases hrR : r < R
    ·have fo := HM.out.out r hrR
     have fe := HM.out.cel r c hrR (by omega)
     by_cases hz : M1 r c = 0
     ·have hb : ((M1 r c) == 0) = true := beq_iff_eq.2 hz
      have HZ1 := Lib.hid hz
      clear hz
      go_wp2
      go_round
      case rel => exact ⟨r + 1, by omega, by omega, by go_num, Lib.hid (fun i h1 h2 => by rcases Nat.lt_or_ge i r with h3 | h3; exact HZ.out i h1 h3; rw [show i = r from by omega]; exact HZ1.out)⟩
      case measure => simp [intOf]; omega
     ·have hb : ((M1 r c) == 0) = false := beq_eq_false_iff_ne.2 hz
      have HZ1 := Lib.hid hz
      clear hz
      go_wp2
      have HM1 := Lib.hid (HM.out.drew)
      have hcR2 : c < R := by omega
      have HB1 := Lib.hid (ga_ HB.out)
      refine mi_ (n := 16) (S := fun w' => w'.cell? ⟨g, r, none⟩ = some (.slice (some ⟨h r, 0, none⟩) (n + 1) (cc r)) ∧ w'.cell? ⟨g, c, none⟩ = some (.slice (some ⟨h c, 0, none⟩) (n + 1) (cc c))) (ds := [13, 15]) #[false, false, false, false, false, false, false, false, false, false, false, false, false, false, false, false] (by kernel_rfl) rfl rfl ⟨HM1.out.out r hrR, HM1.out.out c (by omega)⟩ (fun hHeld => ?_)
      generalize wo.drew = w1 at HM1 HB1 hHeld ⊢
      have sr := HM1.out.out c (by omega)
      have sf := HM1.out.fro c (by omega)
      have sg := HM1.out.fro r hrR
      obtain ⟨vr, hvr⟩ := wq_ (HM1.out.out r hrR) ⟨g, c, none⟩ (.slice (some ⟨h r, 0, none⟩) (n + 1) (cc r))
      refine id_ (i := 0) (N := some 47) (v := ?_) (a' := ?_) #[true, false, false, false, false, false, false, false, false, false, false, false, false, false, false, false] rfl rfl (by kernel_rfl) (fun _ _ _ h => h) (Or.inl ⟨by rfl, ?_⟩) ?_ ?_
      rotate_left
      ·intro w'
       go_simp
       with_reducible rfl
      rotate_left
      ·simp only [Act.put, List.setIfInBounds_toArray, List.set_cons_zero, List.set_cons_succ, gc_, lc_]
       rfl
      refine id_ (i := 1) (N := some 48) (v := ?_) (a' := ?_) #[true, true, false, false, false, false, false, false, false, false, false, false, false, false, false, false] rfl rfl (by kernel_rfl) (fun _ _ _ h => h) (Or.inl ⟨by rfl, ?_⟩) ?_ ?_
      rotate_left
      ·intro w'
       go_simp
       with_reducible rfl
      rotate_left
      ·simp only [Act.put, List.setIfInBounds_toArray, List.set_cons_zero, List.set_cons_succ, gc_, lc_]
       rfl
      refine id_ (i := 2) (N := some 49) (v := ?_) (a' := ?_) #[true, true, true, false, false, false, false, false, false, false, false, false, false, false, false, false] rfl rfl (by kernel_rfl) (fun _ _ _ h => h) (Or.inl ⟨by rfl, ?_⟩) ?_ ?_
      rotate_left
      ·intro w'
       go_simp
       with_reducible rfl
      rotate_left
      ·simp only [Act.put, List.setIfInBounds_toArray, List.set_cons_zero, List.set_cons_succ, gc_, lc_]
       rfl
      refine id_ (i := 3) (N := some 50) (v := ?_) (a' := ?_) #[true, true, true, true, false, false, false, false, false, false, false, false, false, false, false, false] rfl rfl (by kernel_rfl) (fun _ _ _ h => h) (Or.inl ⟨by rfl, ?_⟩) ?_ ?_
      rotate_left
      ·intro w'
       go_simp
       with_reducible rfl
      rotate_left
      ·simp only [Act.put, List.setIfInBounds_toArray, List.set_cons_zero, List.set_cons_succ, gc_, lc_]
       rfl
      refine id_ (i := 4) (N := some 51) (v := ?_) (a' := ?_) #[true, true, true, true, true, false, false, false, false, false, false, false, false, false, false, false] rfl rfl (by kernel_rfl) (fun _ _ _ h => h) (Or.inl ⟨by rfl, ?_⟩) ?_ ?_
      rotate_left
      ·intro w'
       go_simp
       with_reducible rfl
      rotate_left
      ·simp only [Act.put, List.setIfInBounds_toArray, List.set_cons_zero, List.set_cons_succ, gc_, lc_]
       rfl
      refine id_ (i := 5) (N := some 52) (v := ?_) (a' := ?_) #[true, true, true, true, true, true, false, false, false, false, false, false, false, false, false, false] rfl rfl (by kernel_rfl) (fun _ _ _ h => h) (Or.inl ⟨by rfl, ?_⟩) ?_ ?_
      rotate_left
      ·intro w'
       go_simp
       with_reducible rfl
      rotate_left
      ·simp only [Act.put, List.setIfInBounds_toArray, List.set_cons_zero, List.set_cons_succ, gc_, lc_]
       rfl
      refine id_ (i := 6) (N := some 53) (v := ?_) (a' := ?_) #[true, true, true, true, true, true, true, false, false, false, false, false, false, false, false, false] rfl rfl (by kernel_rfl) (fun _ _ _ h => h) (Or.inl ⟨by rfl, ?_⟩) ?_ ?_
      rotate_left
      ·intro w'
       go_simp
       with_reducible rfl
      rotate_left
      ·simp only [Act.put, List.setIfInBounds_toArray, List.set_cons_zero, List.set_cons_succ, gc_, lc_]
       rfl
      refine id_ (i := 8) (N := some 55) (v := ?_) (a' := ?_) #[true, true, true, true, true, true, true, false, true, false, false, false, false, false, false, false] rfl rfl (by kernel_rfl) (fun _ _ _ h => h) (Or.inl ⟨by rfl, ?_⟩) ?_ ?_
      rotate_left
      ·intro w'
       go_simp
       with_reducible rfl
      rotate_left
      ·simp only [Act.put, List.setIfInBounds_toArray, List.set_cons_zero, List.set_cons_succ, gc_, lc_]
       rfl
      refine id_ (i := 9) (N := some 56) (v := ?_) (a' := ?_) #[true, true, true, true, true, true, true, false, true, true, false, false, false, false, false, false] rfl rfl (by kernel_rfl) (fun _ _ _ h => h) (Or.inl ⟨by rfl, ?_⟩) ?_ ?_
      rotate_left
      ·intro w'
       go_simp
       with_reducible rfl
      rotate_left
      ·simp only [Act.put, List.setIfInBounds_toArray, List.set_cons_zero, List.set_cons_succ, gc_, lc_]
       rfl
      refine id_ (i := 10) (N := some 57) (v := ?_) (a' := ?_) #[true, true, true, true, true, true, true, false, true, true, true, false, false, false, false, false] rfl rfl (by kernel_rfl) (fun _ _ _ h => h) (Or.inl ⟨by rfl, ?_⟩) ?_ ?_
      rotate_left
      ·intro w'
       go_simp
       with_reducible rfl
      rotate_left
      ·simp only [Act.put, List.setIfInBounds_toArray, List.set_cons_zero, List.set_cons_succ, gc_, lc_]
       rfl
      refine bh_ (i := 7) (N := some 54) (v := ?_) (a' := ?_) #[true, true, true, true, true, true, true, true, true, true, true, false, false, false, false, false] rfl rfl (by kernel_rfl) (fun _ _ _ h => h) (Or.inl ⟨by rfl, ?_⟩) hHeld ?_ ?_
      rotate_left
      ·rintro w' ⟨s0, s1⟩
       go_simp
       with_reducible rfl
      rotate_left
      ·simp only [Act.put, List.setIfInBounds_toArray, List.set_cons_zero, List.set_cons_succ, gc_, lc_]
       rfl
      refine bh_ (i := 11) (N := some 58) (v := ?_) (a' := ?_) #[true, true, true, true, true, true, true, true, true, true, true, true, false, false, false, false] rfl rfl (by kernel_rfl) (fun _ _ _ h => h) (Or.inl ⟨by rfl, ?_⟩) hHeld ?_ ?_
      rotate_left
      ·rintro w' ⟨s0, s1⟩
       go_simp
       with_reducible rfl
      rotate_left
      ·simp only [Act.put, List.setIfInBounds_toArray, List.set_cons_zero, List.set_cons_succ, gc_, lc_]
       rfl
      refine id_ (i := 12) (N := some 59) (v := ?_) (a' := ?_) #[true, true, true, true, true, true, true, true, true, true, true, true, true, false, false, false] rfl rfl (by kernel_rfl) (fun _ _ _ h => h) (Or.inl ⟨by rfl, ?_⟩) ?_ ?_
      rotate_left
      ·intro w'
       go_simp
       with_reducible rfl
      rotate_left
      ·simp only [Act.put, List.setIfInBounds_toArray, List.set_cons_zero, List.set_cons_succ, gc_, lc_]
       rfl
      refine im_ (i := 13) (N := none) #[true, true, true, true, true, true, true, true, true, true, true, true, true, true, false, false] rfl rfl (by kernel_rfl) (by decide) (fun K hK => ?_)
      refine lm_ (w1 := ?_) (by rfl) rfl ?_ ?_
      rotate_left
      ·go_simp
       rfl
      refine hK.out _ _ ?_
      clear hK K
      refine id_ (i := 14) (N := some 60) (v := ?_) (a' := ?_) #[true, true, true, true, true, true, true, true, true, true, true, true, true, true, true, false] rfl rfl (by kernel_rfl) (fun _ _ _ h => h) (Or.inl ⟨by rfl, ?_⟩) ?_ ?_
      rotate_left
      ·intro w'
       go_simp
       with_reducible rfl
      rotate_left
      ·simp only [Act.put, List.setIfInBounds_toArray, List.set_cons_zero, List.set_cons_succ, gc_, lc_]
       rfl
      refine im_ (i := 15) (N := none) #[true, true, true, true, true, true, true, true, true, true, true, true, true, true, true, true] rfl rfl (by kernel_rfl) (by decide) (fun K hK => ?_)
      refine lm_ (w1 := ?_) (by rfl) rfl ?_ ?_
      rotate_left
      ·go_simp
       rfl
      refine hK.out _ _ ?_
      clear hK K
      refine ik_ (by kernel_rfl) ?_
      have HM2 := Lib.hid (Mat.swap HM1.out c r hcR2 hrR)
      have HB2 := Lib.hid ((HB1.out.setCell (p := ⟨g, c, none⟩) HM1.out.lg (.slice (some ⟨h r, 0, none⟩) (n + 1) (cc r))).setCell (p := ⟨g, r, none⟩) HM1.out.lg (.slice (some ⟨h c, 0, none⟩) (n + 1) (cc c)))
      clear sr sf sg hvr
      generalize (w1.setCell ⟨g, c, none⟩ (.slice (some ⟨h r, 0, none⟩) (n + 1) (cc r))).setCell ⟨g, r, none⟩ (.slice (some ⟨h c, 0, none⟩) (n + 1) (cc c)) = w2 at HM2 HB2 ⊢
      obtain ⟨h2, hh2⟩ : ∃ x, x = qh_ h c r := ⟨_, rfl⟩
      obtain ⟨cc2, hcc2⟩ : ∃ x, x = qh_ cc c r := ⟨_, rfl⟩
      obtain ⟨M2, hM2⟩ : ∃ x, x = qh_ M1 c r := ⟨_, rfl⟩
      obtain ⟨b, hbb⟩ : ∃ x, x = invI (M2 c c) := ⟨_, rfl⟩
      rw [← hh2, ← hcc2, ← hM2] at HM2
      have HE := Lib.hid hM2
      have HI := Lib.hid hbb
      clear hM2 hbb hh2 hcc2 hHeld HM1 HB1
      have fo2 := HM2.out.out c hcR2
      have fe2 := HM2.out.cel c c hcR2 (by omega)
      have mi := jt_
      go_wp2_with (first | (go_at_call 86; refine (np_.calls _ _ _ rfl).mono ?_; rintro e w' ⟨rfl, ⟨nd, rfl⟩⟩; rw [← HI.out]))
      have HM3 := Lib.hid (HM2.out.drewN nd)
      have HB3 := Lib.hid (ca_ HB2.out nd)
      clear HM2 HB2 fo2 fe2 mi
      generalize w2.drewN nd = w3 at HM3 HB3 ⊢
      go_loopw [75] (fun v wr => ∃ k : Nat, k ≤ n + 1 ∧ v = .int .i64 k ∧ Hid (Mat wr base g R (n + 1) h2 cc2 (vi_ M2 c b k)) ∧ Hid (Below base w wr)) (fun v _ => n + 1 - (intOf v).toNat)
      case atStart => exact ⟨0, Nat.zero_le _, rfl, Lib.hid (by rw [io_]; exact HM3.out), HB3⟩
      case round =>
       clear HM3 HB3
       obtain ⟨k, hk, rfl, HM, HB⟩ := hrel
       obtain ⟨w4, rfl⟩ : ∃ x : World, x = wr := ⟨_, rfl⟩
       by_cases hkn : k < n + 1
       ·go_wp2
        have HM1 := Lib.hid (HM.out.drew)
        have HB1 := Lib.hid (ga_ HB.out)
        have fe : w4.drew.cell? ⟨h2 c, k, none⟩ = some (.int .i64 (M2 c k)) := by have := HM1.out.cel c k hcR2 hkn; rwa [kr_] at this
        have mt := ar_
        refine mi_ (n := 17) (S := fun w' => w'.cell? ⟨g, c, none⟩ = some (.slice (some ⟨h2 c, 0, none⟩) (n + 1) (cc2 c)) ∧ w'.cell? ⟨h2 c, k, none⟩ = some (.int .i64 (M2 c k))) (ds := [16]) #[false, false, false, false, false, false, false, false, false, false, false, false, false, false, false, false, false] (by kernel_rfl) rfl rfl ⟨HM1.out.out c hcR2, fe⟩ (fun hHeld => ?_)
        generalize w4.drew = w5 at HM1 HB1 hHeld ⊢
        clear fe
        refine id_ (i := 0) (N := some 78) (v := ?_) (a' := ?_) #[true, false, false, false, false, false, false, false, false, false, false, false, false, false, false, false, false] rfl rfl (by kernel_rfl) (fun _ _ _ h => h) (Or.inl ⟨by rfl, ?_⟩) ?_ ?_
        rotate_left
        ·intro w'
         go_simp
         with_reducible rfl
        rotate_left
        ·simp only [Act.put, List.setIfInBounds_toArray, List.set_cons_zero, List.set_cons_succ, gc_, lc_]
         rfl
        refine id_ (i := 1) (N := some 79) (v := ?_) (a' := ?_) #[true, true, false, false, false, false, false, false, false, false, false, false, false, false, false, false, false] rfl rfl (by kernel_rfl) (fun _ _ _ h => h) (Or.inl ⟨by rfl, ?_⟩) ?_ ?_
        rotate_left
        ·intro w'
         go_simp
         with_reducible rfl
        rotate_left
        ·simp only [Act.put, List.setIfInBounds_toArray, List.set_cons_zero, List.set_cons_succ, gc_, lc_]
         rfl
        refine id_ (i := 2) (N := some 80) (v := ?_) (a' := ?_) #[true, true, true, false, false, false, false, false, false, false, false, false, false, false, false, false, false] rfl rfl (by kernel_rfl) (fun _ _ _ h => h) (Or.inl ⟨by rfl, ?_⟩) ?_ ?_
        rotate_left
        ·intro w'
         go_simp
         with_reducible rfl
        rotate_left
        ·simp only [Act.put, List.setIfInBounds_toArray, List.set_cons_zero, List.set_cons_succ, gc_, lc_]
         rfl
        refine id_ (i := 4) (N := some 82) (v := ?_) (a' := ?_) #[true, true, true, false, true, false, false, false, false, false, false, false, false, false, false, false, false] rfl rfl (by kernel_rfl) (fun _ _ _ h => h) (Or.inl ⟨by rfl, ?_⟩) ?_ ?_
        rotate_left
        ·intro w'
         go_simp
         with_reducible rfl
        rotate_left
        ·simp only [Act.put, List.setIfInBounds_toArray, List.set_cons_zero, List.set_cons_succ, gc_, lc_]
         rfl
        refine id_ (i := 5) (N := some 83) (v := ?_) (a' := ?_) #[true, true, true, false, true, true, false, false, false, false, false, false, false, false, false, false, false] rfl rfl (by kernel_rfl) (fun _ _ _ h => h) (Or.inl ⟨by rfl, ?_⟩) ?_ ?_
        rotate_left
        ·intro w'
         go_simp
         with_reducible rfl
        rotate_left
        ·simp only [Act.put, List.setIfInBounds_toArray, List.set_cons_zero, List.set_cons_succ, gc_, lc_]
         rfl
        refine id_ (i := 6) (N := some 84) (v := ?_) (a' := ?_) #[true, true, true, false, true, true, true, false, false, false, false, false, false, false, false, false, false] rfl rfl (by kernel_rfl) (fun _ _ _ h => h) (Or.inl ⟨by rfl, ?_⟩) ?_ ?_
        rotate_left
        ·intro w'
         go_simp
         with_reducible rfl
        rotate_left
        ·simp only [Act.put, List.setIfInBounds_toArray, List.set_cons_zero, List.set_cons_succ, gc_, lc_]
         rfl
        refine id_ (i := 7) (N := some 85) (v := ?_) (a' := ?_) #[true, true, true, false, true, true, true, true, false, false, false, false, false, false, false, false, false] rfl rfl (by kernel_rfl) (fun _ _ _ h => h) (Or.inl ⟨by rfl, ?_⟩) ?_ ?_
        rotate_left
        ·intro w'
         go_simp
         with_reducible rfl
        rotate_left
        ·simp only [Act.put, List.setIfInBounds_toArray, List.set_cons_zero, List.set_cons_succ, gc_, lc_]
         rfl
        refine id_ (i := 9) (N := some 87) (v := ?_) (a' := ?_) #[true, true, true, false, true, true, true, true, false, true, false, false, false, false, false, false, false] rfl rfl (by kernel_rfl) (fun _ _ _ h => h) (Or.inl ⟨by rfl, ?_⟩) ?_ ?_
        rotate_left
        ·intro w'
         go_simp
         with_reducible rfl
        rotate_left
        ·simp only [Act.put, List.setIfInBounds_toArray, List.set_cons_zero, List.set_cons_succ, gc_, lc_]
         rfl
        refine id_ (i := 13) (N := some 91) (v := ?_) (a' := ?_) #[true, true, true, false, true, true, true, true, false, true, false, false, false, true, false, false, false] rfl rfl (by kernel_rfl) (fun _ _ _ h => h) (Or.inl ⟨by rfl, ?_⟩) ?_ ?_
        rotate_left
        ·intro w'
         go_simp
         with_reducible rfl
        rotate_left
        ·simp only [Act.put, List.setIfInBounds_toArray, List.set_cons_zero, List.set_cons_succ, gc_, lc_]
         rfl
        refine bh_ (i := 3) (N := some 81) (v := ?_) (a' := ?_) #[true, true, true, true, true, true, true, true, false, true, false, false, false, true, false, false, false] rfl rfl (by kernel_rfl) (fun _ _ _ h => h) (Or.inl ⟨by rfl, ?_⟩) hHeld ?_ ?_
        rotate_left
        ·rintro w' ⟨s0, s1⟩
         go_simp
         with_reducible rfl
        rotate_left
        ·simp only [Act.put, List.setIfInBounds_toArray, List.set_cons_zero, List.set_cons_succ, gc_, lc_]
         rfl
        refine bh_ (i := 8) (N := some 86) (v := ?_) (a' := ?_) #[true, true, true, true, true, true, true, true, true, true, false, false, false, true, false, false, false] rfl rfl (by kernel_rfl) (fun _ _ _ h => h) (Or.inl ⟨by rfl, ?_⟩) hHeld ?_ ?_
        rotate_left
        ·rintro w' ⟨s0, s1⟩
         go_simp
         with_reducible rfl
        rotate_left
        ·simp only [Act.put, List.setIfInBounds_toArray, List.set_cons_zero, List.set_cons_succ, gc_, lc_]
         rfl
        refine id_ (i := 10) (N := some 88) (v := ?_) (a' := ?_) #[true, true, true, true, true, true, true, true, true, true, true, false, false, true, false, false, false] rfl rfl (by kernel_rfl) (fun _ _ _ h => h) (Or.inl ⟨by rfl, ?_⟩) ?_ ?_
        rotate_left
        ·intro w'
         go_simp
         with_reducible rfl
        rotate_left
        ·simp only [Act.put, List.setIfInBounds_toArray, List.set_cons_zero, List.set_cons_succ, gc_, lc_]
         rfl
        refine bh_ (i := 11) (N := some 89) (v := ?_) (a' := ?_) #[true, true, true, true, true, true, true, true, true, true, true, true, false, true, false, false, false] rfl rfl (by kernel_rfl) (fun _ _ _ h => h) (Or.inl ⟨by rfl, ?_⟩) hHeld ?_ ?_
        rotate_left
        ·rintro w' ⟨s0, s1⟩
         go_simp
         with_reducible rfl
        rotate_left
        ·simp only [Act.put, List.setIfInBounds_toArray, List.set_cons_zero, List.set_cons_succ, gc_, lc_]
         rfl
        refine id_ (i := 12) (N := some 90) (v := ?_) (a' := ?_) #[true, true, true, true, true, true, true, true, true, true, true, true, true, true, false, false, false] rfl rfl (by kernel_rfl) (fun _ _ _ h => h) (Or.inl ⟨by rfl, ?_⟩) ?_ ?_
        rotate_left
        ·intro w'
         go_simp
         with_reducible rfl
        rotate_left
        ·simp only [Act.put, List.setIfInBounds_toArray, List.set_cons_zero, List.set_cons_succ, gc_, lc_]
         rfl
        refine one_ (i := 14) (N := some 92) #[true, true, true, true, true, true, true, true, true, true, true, true, true, true, true, false, false] rfl rfl (by kernel_rfl) (by decide) (fun K hK => ?_)
        refine ua1_ 66 #[.int .i64 (M2 c k), .int .i64 b] (by rfl) rfl (by go_simp) ?_
        with_reducible refine (uh_.calls (M2 c k) b _ _ rfl).mono ?_
        rintro e w' ⟨rfl, ⟨nd, rfl⟩⟩
        refine ⟨_, rfl, ?_⟩
        have HM5 := Lib.hid (HM1.out.drewN nd)
        have HB5 := Lib.hid (ca_ HB1.out nd)
        have sr := HM5.out.cel c k hcR2 hkn
        have sf := HM5.out.frc c k hcR2 hkn
        refine hK.out _ _ ⟨hHeld.1, hHeld.2⟩ (fun hHeld => ?_)
        clear hK K
        refine ej_ (a' := ?_) ?_ ?_
        rotate_left
        ·show Act.put _ (some 92) _ = _
         simp only [Act.put, List.setIfInBounds_toArray, List.set_cons_zero, List.set_cons_succ, gc_, lc_]
         rfl
        refine id_ (i := 15) (N := some 93) (v := ?_) (a' := ?_) #[true, true, true, true, true, true, true, true, true, true, true, true, true, true, true, true, false] rfl rfl (by kernel_rfl) (fun _ _ _ h => h) (Or.inl ⟨by rfl, ?_⟩) ?_ ?_
        rotate_left
        ·intro w'
         go_simp
         with_reducible rfl
        rotate_left
        ·simp only [Act.put, List.setIfInBounds_toArray, List.set_cons_zero, List.set_cons_succ, gc_, lc_]
         rfl
        refine im_ (i := 16) (N := none) #[true, true, true, true, true, true, true, true, true, true, true, true, true, true, true, true, true] rfl rfl (by kernel_rfl) (by decide) (fun K hK => ?_)
        refine lm_ (w1 := ?_) (by rfl) rfl ?_ ?_
        rotate_left
        ·go_simp
         rfl
        refine hK.out _ _ ?_
        clear hK K
        refine ik_ (by kernel_rfl) ?_
        have HM6 := Lib.hid (Mat.set HM5.out c k hcR2 hkn (mulI (M2 c k) b))
        have HB6 := Lib.hid (HB5.out.setCell (p := ⟨h2 c, k, none⟩) (HM5.out.lo c hcR2) (.int .i64 (mulI (M2 c k) b)))
        clear sr sf HM5 HB5 hHeld HM1 HB1
        generalize (w5.drewN nd).setCell ⟨h2 c, k, none⟩ (.int .i64 (mulI (M2 c k) b)) = w6 at HM6 HB6 ⊢
        go_wp2
        go_roundw
        case rel => exact ⟨k + 1, by omega, by go_num, Lib.hid (by rw [← ho_]; exact HM6.out), HB6⟩
        case measure => simp [intOf]; omega
       ·obtain rfl : k = n + 1 := by omega
        obtain ⟨M3, hM3⟩ : ∃ x, x = vi_ M2 c b (n + 1) := ⟨_, rfl⟩
        rw [← hM3] at HM
        have HF := Lib.hid hM3
        clear hM3
        go_wp2
        go_loopw [97] (fun v wr => ∃ i : Nat, i ≤ R ∧ v = .int .i64 i ∧ Hid (Mat wr base g R (n + 1) h2 cc2 (qi_ M3 c i)) ∧ Hid (Below base w wr)) (fun v _ => R - (intOf v).toNat)
        case atStart => exact ⟨0, Nat.zero_le _, rfl, Lib.hid (by rw [kp_]; exact HM.out), HB⟩
        case round =>
         clear HM HB
         obtain ⟨i, hi, rfl, HM, HB⟩ := hrel
         obtain ⟨w7, rfl⟩ : ∃ x : World, x = wr := ⟨_, rfl⟩
         by_cases hiR : i < R
         ·have fo := HM.out.out i hiR
          have fe : w7.cell? ⟨h2 i, c, none⟩ = some (.int .i64 (M3 i c)) := by have := HM.out.cel i c hiR (by omega); rwa [al_] at this
          by_cases hic : i = c
          ·have hb : ((i : Int) != (c : Int)) = false := by simp; omega
           have HK := Lib.hid (lk_ M3 c i (.inl hic))
           clear hic
           go_wp2
           go_roundw
           case rel => exact ⟨i + 1, by omega, by go_num, Lib.hid (by rw [HK.out]; exact HM.out), HB⟩
           case measure => simp [intOf]; omega
          ·have hb : ((i : Int) != (c : Int)) = true := by simp; omega
           by_cases hz : M3 i c = 0
           ·have hb2 : ((M3 i c) != 0) = false := bne_eq_false_iff_eq.2 hz
            have HK := Lib.hid (lk_ M3 c i (.inr hz))
            clear hz
            go_wp2
            go_roundw
            case rel => exact ⟨i + 1, by omega, by go_num, Lib.hid (by rw [HK.out]; exact HM.out), HB⟩
            case measure => simp [intOf]; omega
           ·have hb2 : ((M3 i c) != 0) = true := bne_iff_ne.2 hz
            have HK := Lib.hid hz
            clear hz
            go_wp2
            go_loopw [120] (fun v wr => ∃ k : Nat, k ≤ n + 1 ∧ v = .int .i64 k ∧ Hid (Mat wr base g R (n + 1) h2 cc2 (zh_ M3 c i k)) ∧ Hid (Below base w wr)) (fun v _ => n + 1 - (intOf v).toNat)
            case atStart => exact ⟨0, Nat.zero_le _, rfl, Lib.hid (by rw [ao_]; exact HM.out), HB⟩
            case round =>
             clear HM HB fo fe
             obtain ⟨k, hk, rfl, HM, HB⟩ := hrel
             obtain ⟨w8, rfl⟩ : ∃ x : World, x = wr := ⟨_, rfl⟩
             by_cases hkn : k < n + 1
             ·go_wp2
              have HM1 := Lib.hid (HM.out.drew)
              have HB1 := Lib.hid (ga_ HB.out)
              have fi : w8.drew.cell? ⟨h2 i, k, none⟩ = some (.int .i64 (M3 i k)) := by have := HM1.out.cel i k hiR hkn; rwa [pl_] at this
              have fc : w8.drew.cell? ⟨h2 c, k, none⟩ = some (.int .i64 (M3 c k)) := by have := HM1.out.cel c k hcR2 hkn; rwa [kk_ _ _ _ _ _ hic] at this
              have mt := ar_
              have mp := nz_
              refine mi_ (n := 26) (S := fun w' => w'.cell? ⟨g, i, none⟩ = some (.slice (some ⟨h2 i, 0, none⟩) (n + 1) (cc2 i)) ∧ w'.cell? ⟨h2 i, k, none⟩ = some (.int .i64 (M3 i k)) ∧ w'.cell? ⟨g, c, none⟩ = some (.slice (some ⟨h2 c, 0, none⟩) (n + 1) (cc2 c)) ∧ w'.cell? ⟨h2 c, k, none⟩ = some (.int .i64 (M3 c k))) (ds := [25]) #[false, false, false, false, false, false, false, false, false, false, false, false, false, false, false, false, false, false, false, false, false, false, false, false, false, false] (by kernel_rfl) rfl rfl ⟨HM1.out.out i hiR, fi, HM1.out.out c hcR2, fc⟩ (fun hHeld => ?_)
              generalize w8.drew = w9 at HM1 HB1 hHeld ⊢
              clear fi fc
              refine id_ (i := 0) (N := some 123) (v := ?_) (a' := ?_) #[true, false, false, false, false, false, false, false, false, false, false, false, false, false, false, false, false, false, false, false, false, false, false, false, false, false] rfl rfl (by kernel_rfl) (fun _ _ _ h => h) (Or.inl ⟨by rfl, ?_⟩) ?_ ?_
              rotate_left
              ·intro w'
               go_simp
               with_reducible rfl
              rotate_left
              ·simp only [Act.put, List.setIfInBounds_toArray, List.set_cons_zero, List.set_cons_succ, gc_, lc_]
               rfl
              refine id_ (i := 1) (N := some 124) (v := ?_) (a' := ?_) #[true, true, false, false, false, false, false, false, false, false, false, false, false, false, false, false, false, false, false, false, false, false, false, false, false, false] rfl rfl (by kernel_rfl) (fun _ _ _ h => h) (Or.inl ⟨by rfl, ?_⟩) ?_ ?_
              rotate_left
              ·intro w'
               go_simp
               with_reducible rfl
              rotate_left
              ·simp only [Act.put, List.setIfInBounds_toArray, List.set_cons_zero, List.set_cons_succ, gc_, lc_]
               rfl
              refine id_ (i := 2) (N := some 125) (v := ?_) (a' := ?_) #[true, true, true, false, false, false, false, false, false, false, false, false, false, false, false, false, false, false, false, false, false, false, false, false, false, false] rfl rfl (by kernel_rfl) (fun _ _ _ h => h) (Or.inl ⟨by rfl, ?_⟩) ?_ ?_
              rotate_left
              ·intro w'
               go_simp
               with_reducible rfl
              rotate_left
              ·simp only [Act.put, List.setIfInBounds_toArray, List.set_cons_zero, List.set_cons_succ, gc_, lc_]
               rfl
              refine id_ (i := 4) (N := some 127) (v := ?_) (a' := ?_) #[true, true, true, false, true, false, false, false, false, false, false, false, false, false, false, false, false, false, false, false, false, false, false, false, false, false] rfl rfl (by kernel_rfl) (fun _ _ _ h => h) (Or.inl ⟨by rfl, ?_⟩) ?_ ?_
              rotate_left
              ·intro w'
               go_simp
               with_reducible rfl
              rotate_left
              ·simp only [Act.put, List.setIfInBounds_toArray, List.set_cons_zero, List.set_cons_succ, gc_, lc_]
               rfl
              refine id_ (i := 5) (N := some 128) (v := ?_) (a' := ?_) #[true, true, true, false, true, true, false, false, false, false, false, false, false, false, false, false, false, false, false, false, false, false, false, false, false, false] rfl rfl (by kernel_rfl) (fun _ _ _ h => h) (Or.inl ⟨by rfl, ?_⟩) ?_ ?_
              rotate_left
              ·intro w'
               go_simp
               with_reducible rfl
              rotate_left
              ·simp only [Act.put, List.setIfInBounds_toArray, List.set_cons_zero, List.set_cons_succ, gc_, lc_]
               rfl
              refine id_ (i := 6) (N := some 129) (v := ?_) (a' := ?_) #[true, true, true, false, true, true, true, false, false, false, false, false, false, false, false, false, false, false, false, false, false, false, false, false, false, false] rfl rfl (by kernel_rfl) (fun _ _ _ h => h) (Or.inl ⟨by rfl, ?_⟩) ?_ ?_
              rotate_left
              ·intro w'
               go_simp
               with_reducible rfl
              rotate_left
              ·simp only [Act.put, List.setIfInBounds_toArray, List.set_cons_zero, List.set_cons_succ, gc_, lc_]
               rfl
              refine id_ (i := 7) (N := some 130) (v := ?_) (a' := ?_) #[true, true, true, false, true, true, true, true, false, false, false, false, false, false, false, false, false, false, false, false, false, false, false, false, false, false] rfl rfl (by kernel_rfl) (fun _ _ _ h => h) (Or.inl ⟨by rfl, ?_⟩) ?_ ?_
              rotate_left
              ·intro w'
               go_simp
               with_reducible rfl
              rotate_left
              ·simp only [Act.put, List.setIfInBounds_toArray, List.set_cons_zero, List.set_cons_succ, gc_, lc_]
               rfl
              refine id_ (i := 9) (N := some 132) (v := ?_) (a' := ?_) #[true, true, true, false, true, true, true, true, false, true, false, false, false, false, false, false, false, false, false, false, false, false, false, false, false, false] rfl rfl (by kernel_rfl) (fun _ _ _ h => h) (Or.inl ⟨by rfl, ?_⟩) ?_ ?_
              rotate_left
              ·intro w'
               go_simp
               with_reducible rfl
              rotate_left
              ·simp only [Act.put, List.setIfInBounds_toArray, List.set_cons_zero, List.set_cons_succ, gc_, lc_]
               rfl
              refine id_ (i := 13) (N := some 136) (v := ?_) (a' := ?_) #[true, true, true, false, true, true, true, true, false, true, false, false, false, true, false, false, false, false, false, false, false, false, false, false, false, false] rfl rfl (by kernel_rfl) (fun _ _ _ h => h) (Or.inl ⟨by rfl, ?_⟩) ?_ ?_
              rotate_left
              ·intro w'
               go_simp
               with_reducible rfl
              rotate_left
              ·simp only [Act.put, List.setIfInBounds_toArray, List.set_cons_zero, List.set_cons_succ, gc_, lc_]
               rfl
              refine id_ (i := 14) (N := some 137) (v := ?_) (a' := ?_) #[true, true, true, false, true, true, true, true, false, true, false, false, false, true, true, false, false, false, false, false, false, false, false, false, false, false] rfl rfl (by kernel_rfl) (fun _ _ _ h => h) (Or.inl ⟨by rfl, ?_⟩) ?_ ?_
              rotate_left
              ·intro w'
               go_simp
               with_reducible rfl
              rotate_left
              ·simp only [Act.put, List.setIfInBounds_toArray, List.set_cons_zero, List.set_cons_succ, gc_, lc_]
               rfl
              refine id_ (i := 15) (N := some 138) (v := ?_) (a' := ?_) #[true, true, true, false, true, true, true, true, false, true, false, false, false, true, true, true, false, false, false, false, false, false, false, false, false, false] rfl rfl (by kernel_rfl) (fun _ _ _ h => h) (Or.inl ⟨by rfl, ?_⟩) ?_ ?_
              rotate_left
              ·intro w'
               go_simp
               with_reducible rfl
              rotate_left
              ·simp only [Act.put, List.setIfInBounds_toArray, List.set_cons_zero, List.set_cons_succ, gc_, lc_]
               rfl
              refine id_ (i := 16) (N := some 139) (v := ?_) (a' := ?_) #[true, true, true, false, true, true, true, true, false, true, false, false, false, true, true, true, true, false, false, false, false, false, false, false, false, false] rfl rfl (by kernel_rfl) (fun _ _ _ h => h) (Or.inl ⟨by rfl, ?_⟩) ?_ ?_
              rotate_left
              ·intro w'
               go_simp
               with_reducible rfl
              rotate_left
              ·simp only [Act.put, List.setIfInBounds_toArray, List.set_cons_zero, List.set_cons_succ, gc_, lc_]
               rfl
              refine id_ (i := 17) (N := some 140) (v := ?_) (a' := ?_) #[true, true, true, false, true, true, true, true, false, true, false, false, false, true, true, true, true, true, false, false, false, false, false, false, false, false] rfl rfl (by kernel_rfl) (fun _ _ _ h => h) (Or.inl ⟨by rfl, ?_⟩) ?_ ?_
              rotate_left
              ·intro w'
               go_simp
               with_reducible rfl
              rotate_left
              ·simp only [Act.put, List.setIfInBounds_toArray, List.set_cons_zero, List.set_cons_succ, gc_, lc_]
               rfl
              refine id_ (i := 19) (N := some 142) (v := ?_) (a' := ?_) #[true, true, true, false, true, true, true, true, false, true, false, false, false, true, true, true, true, true, false, true, false, false, false, false, false, false] rfl rfl (by kernel_rfl) (fun _ _ _ h => h) (Or.inl ⟨by rfl, ?_⟩) ?_ ?_
              rotate_left
              ·intro w'
               go_simp
               with_reducible rfl
              rotate_left
              ·simp only [Act.put, List.setIfInBounds_toArray, List.set_cons_zero, List.set_cons_succ, gc_, lc_]
               rfl
              refine bh_ (i := 3) (N := some 126) (v := ?_) (a' := ?_) #[true, true, true, true, true, true, true, true, false, true, false, false, false, true, true, true, true, true, false, true, false, false, false, false, false, false] rfl rfl (by kernel_rfl) (fun _ _ _ h => h) (Or.inl ⟨by rfl, ?_⟩) hHeld ?_ ?_
              rotate_left
              ·rintro w' ⟨s0, s1, s2, s3⟩
               go_simp
               with_reducible rfl
              rotate_left
              ·simp only [Act.put, List.setIfInBounds_toArray, List.set_cons_zero, List.set_cons_succ, gc_, lc_]
               rfl
              refine bh_ (i := 8) (N := some 131) (v := ?_) (a' := ?_) #[true, true, true, true, true, true, true, true, true, true, false, false, false, true, true, true, true, true, false, true, false, false, false, false, false, false] rfl rfl (by kernel_rfl) (fun _ _ _ h => h) (Or.inl ⟨by rfl, ?_⟩) hHeld ?_ ?_
              rotate_left
              ·rintro w' ⟨s0, s1, s2, s3⟩
               go_simp
               with_reducible rfl
              rotate_left
              ·simp only [Act.put, List.setIfInBounds_toArray, List.set_cons_zero, List.set_cons_succ, gc_, lc_]
               rfl
              refine id_ (i := 10) (N := some 133) (v := ?_) (a' := ?_) #[true, true, true, true, true, true, true, true, true, true, true, false, false, true, true, true, true, true, false, true, false, false, false, false, false, false] rfl rfl (by kernel_rfl) (fun _ _ _ h => h) (Or.inl ⟨by rfl, ?_⟩) ?_ ?_
              rotate_left
              ·intro w'
               go_simp
               with_reducible rfl
              rotate_left
              ·simp only [Act.put, List.setIfInBounds_toArray, List.set_cons_zero, List.set_cons_succ, gc_, lc_]
               rfl
              refine bh_ (i := 11) (N := some 134) (v := ?_) (a' := ?_) #[true, true, true, true, true, true, true, true, true, true, true, true, false, true, true, true, true, true, false, true, false, false, false, false, false, false] rfl rfl (by kernel_rfl) (fun _ _ _ h => h) (Or.inl ⟨by rfl, ?_⟩) hHeld ?_ ?_
              rotate_left
              ·rintro w' ⟨s0, s1, s2, s3⟩
               go_simp
               with_reducible rfl
              rotate_left
              ·simp only [Act.put, List.setIfInBounds_toArray, List.set_cons_zero, List.set_cons_succ, gc_, lc_]
               rfl
              refine id_ (i := 12) (N := some 135) (v := ?_) (a' := ?_) #[true, true, true, true, true, true, true, true, true, true, true, true, true, true, true, true, true, true, false, true, false, false, false, false, false, false] rfl rfl (by kernel_rfl) (fun _ _ _ h => h) (Or.inl ⟨by rfl, ?_⟩) ?_ ?_
              rotate_left
              ·intro w'
               go_simp
               with_reducible rfl
              rotate_left
              ·simp only [Act.put, List.setIfInBounds_toArray, List.set_cons_zero, List.set_cons_succ, gc_, lc_]
               rfl
              refine bh_ (i := 18) (N := some 141) (v := ?_) (a' := ?_) #[true, true, true, true, true, true, true, true, true, true, true, true, true, true, true, true, true, true, true, true, false, false, false, false, false, false] rfl rfl (by kernel_rfl) (fun _ _ _ h => h) (Or.inl ⟨by rfl, ?_⟩) hHeld ?_ ?_
              rotate_left
              ·rintro w' ⟨s0, s1, s2, s3⟩
               go_simp
               with_reducible rfl
              rotate_left
              ·simp only [Act.put, List.setIfInBounds_toArray, List.set_cons_zero, List.set_cons_succ, gc_, lc_]
               rfl
              refine id_ (i := 20) (N := some 143) (v := ?_) (a' := ?_) #[true, true, true, true, true, true, true, true, true, true, true, true, true, true, true, true, true, true, true, true, true, false, false, false, false, false] rfl rfl (by kernel_rfl) (fun _ _ _ h => h) (Or.inl ⟨by rfl, ?_⟩) ?_ ?_
              rotate_left
              ·intro w'
               go_simp
               with_reducible rfl
              rotate_left
              ·simp only [Act.put, List.setIfInBounds_toArray, List.set_cons_zero, List.set_cons_succ, gc_, lc_]
               rfl
              refine bh_ (i := 21) (N := some 144) (v := ?_) (a' := ?_) #[true, true, true, true, true, true, true, true, true, true, true, true, true, true, true, true, true, true, true, true, true, true, false, false, false, false] rfl rfl (by kernel_rfl) (fun _ _ _ h => h) (Or.inl ⟨by rfl, ?_⟩) hHeld ?_ ?_
              rotate_left
              ·rintro w' ⟨s0, s1, s2, s3⟩
               go_simp
               with_reducible rfl
              rotate_left
              ·simp only [Act.put, List.setIfInBounds_toArray, List.set_cons_zero, List.set_cons_succ, gc_, lc_]
               rfl
              refine one_ (i := 22) (N := some 145) #[true, true, true, true, true, true, true, true, true, true, true, true, true, true, true, true, true, true, true, true, true, true, true, false, false, false] rfl rfl (by kernel_rfl) (by decide) (fun K hK => ?_)
              refine ua1_ 66 #[.int .i64 (M3 i c), .int .i64 (M3 c k)] (by rfl) rfl (by go_simp) ?_
              with_reducible refine (uh_.calls (M3 i c) (M3 c k) _ _ rfl).mono ?_
              rintro e w' ⟨rfl, ⟨nd, rfl⟩⟩
              refine ⟨_, rfl, ?_⟩
              refine hK.out _ _ ⟨hHeld.1, hHeld.2.1, hHeld.2.2.1, hHeld.2.2.2⟩ (fun hHeld => ?_)
              clear hK K
              refine ej_ (a' := ?_) ?_ ?_
              rotate_left
              ·show Act.put _ (some 145) _ = _
               simp only [Act.put, List.setIfInBounds_toArray, List.set_cons_zero, List.set_cons_succ, gc_, lc_]
               rfl
              refine one_ (i := 23) (N := some 146) #[true, true, true, true, true, true, true, true, true, true, true, true, true, true, true, true, true, true, true, true, true, true, true, true, false, false] rfl rfl (by kernel_rfl) (by decide) (fun K hK => ?_)
              refine ua1_ 65 #[.int .i64 (M3 i k), .int .i64 (mulI (M3 i c) (M3 c k))] (by rfl) rfl (by go_simp) ?_
              with_reducible refine (ii_.calls (M3 i k) (mulI (M3 i c) (M3 c k)) _ _ rfl).mono ?_
              rintro e w' ⟨rfl, ⟨nd2, rfl⟩⟩
              refine ⟨_, rfl, ?_⟩
              have HM5 := Lib.hid ((HM1.out.drewN nd).drewN nd2)
              have HB5 := Lib.hid (ca_ (ca_ HB1.out nd) nd2)
              generalize (w9.drewN nd).drewN nd2 = w10 at HM5 HB5 ⊢
              have sr := HM5.out.cel i k hiR hkn
              have sf := HM5.out.frc i k hiR hkn
              refine hK.out _ _ ⟨HM5.out.out i hiR, by have := HM5.out.cel i k hiR hkn; rwa [pl_] at this, HM5.out.out c hcR2, by have := HM5.out.cel c k hcR2 hkn; rwa [kk_ _ _ _ _ _ hic] at this⟩ (fun hHeld => ?_)
              clear hK K
              refine ej_ (a' := ?_) ?_ ?_
              rotate_left
              ·show Act.put _ (some 146) _ = _
               simp only [Act.put, List.setIfInBounds_toArray, List.set_cons_zero, List.set_cons_succ, gc_, lc_]
               rfl
              refine id_ (i := 24) (N := some 147) (v := ?_) (a' := ?_) #[true, true, true, true, true, true, true, true, true, true, true, true, true, true, true, true, true, true, true, true, true, true, true, true, true, false] rfl rfl (by kernel_rfl) (fun _ _ _ h => h) (Or.inl ⟨by rfl, ?_⟩) ?_ ?_
              rotate_left
              ·intro w'
               go_simp
               with_reducible rfl
              rotate_left
              ·simp only [Act.put, List.setIfInBounds_toArray, List.set_cons_zero, List.set_cons_succ, gc_, lc_]
               rfl
              refine im_ (i := 25) (N := none) #[true, true, true, true, true, true, true, true, true, true, true, true, true, true, true, true, true, true, true, true, true, true, true, true, true, true] rfl rfl (by kernel_rfl) (by decide) (fun K hK => ?_)
              refine lm_ (w1 := ?_) (by rfl) rfl ?_ ?_
              rotate_left
              ·go_simp
               rfl
              refine hK.out _ _ ?_
              clear hK K
              refine ik_ (by kernel_rfl) ?_
              have HM6 := Lib.hid (Mat.set HM5.out i k hiR hkn (xorI (M3 i k) (mulI (M3 i c) (M3 c k))))
              have HB6 := Lib.hid (HB5.out.setCell (p := ⟨h2 i, k, none⟩) (HM5.out.lo i hiR) (.int .i64 (xorI (M3 i k) (mulI (M3 i c) (M3 c k)))))
              clear sr sf HM5 HB5 hHeld HM1 HB1
              generalize w10.setCell ⟨h2 i, k, none⟩ (.int .i64 (xorI (M3 i k) (mulI (M3 i c) (M3 c k)))) = w11 at HM6 HB6 ⊢
              go_wp2
              go_roundw
              case rel => exact ⟨k + 1, by omega, by go_num, Lib.hid (by rw [← zn_]; exact HM6.out), HB6⟩
              case measure => simp [intOf]; omega
             ·obtain rfl : k = n + 1 := by omega
              go_wp2
              go_roundw
              case rel => exact ⟨i + 1, by omega, by go_num, Lib.hid (HM.out.congr (fun i' k' _ hk' => jp_ M3 c i (n + 1) hic HK.out i' k' hk')), HB⟩
              case measure => simp [intOf]; omega
         ·obtain rfl : i = R := by omega
          go_wp2
          go_roundw
          case rel => exact ⟨c + 1, by omega, by omega, by go_num, h2, cc2, oq_ M1 c r, Lib.hid (by rw [gjI, HG.out]; have hp := to_ hr1 hr2 HZ.out (fun _ => HZ1.out); simp only [hp]; rw [if_neg (by omega)]), Lib.hid (HM.out.congr (fun i' k' hi' hk' => by rw [yq_ M3 (fk_ M2 c b) c i (n + 1) (fun i k hk => by rw [HF.out]; exact zp_ M2 c b (n + 1) i k hk) (by omega) i' k' hi' hk']; unfold oq_; rw [← HE.out, ← HI.out])), HB⟩
          case measure => simp [intOf]; omega
    ·have hb : ((r : Int) == (R : Int)) = true := beq_iff_eq.2 (by omega)
     have hs := Lib.hid (ia1_ (n := n) HG.out (by have := to_ hr1 hr2 HZ.out (fun h => absurd h hrR); rw [this]; omega) hcn)
     go_wp2
     go_ret2
     exact ⟨_, by rw [hs.out]; rfl, by rw [hs.out]; exact Kd.uf_ _ _ _ _ _, HB.out⟩
  ·obtain rfl : c = n := by omega
   have i57 : (Try.prog.info? 57).map (fun i => (i.zero, i.size, i.bytes)) = some (some (.int .i64 0), 1, 8) := by kernel_rfl
   have I57 := Lib.hid i57
   clear i57
   go_wp2_with (first | ((with_reducible refine yd_ (N := 152) rfl ?_); refine Kd.uq_ (Kd.int .i64) wo.heap.size 57 rfl (N := 152) rfl 69 _ _ rfl (c : Int) rfl rfl Try.underlying69 (.int .i64 0) 8 I57.out rfl (by decide) (by omega) 0 (ok := fun _ => True) (okp := fun _ => True) rfl (fun _ hk => hk) trivial (by omega) (by omega) (Below.refl _ _) (Nat.le_refl _) ?_; intro v1 w1 ho1 hb1 hg1_ hnew_; clear hg1_ hnew_; have HO := Lib.hid ho1; have HW := Lib.hid hb1; clear ho1 hb1))
   go_loopw [155] (fun v wr => ∃ i : Nat, i ≤ R ∧ v = .int .i64 i ∧ Hid (Kd.R (Kd.int .i64) 57 wr wo.heap.size (fun _ => True) v1 (zl_ M1 c i)) ∧ Hid (∀ i', c ≤ i' → i' < i → M1 i' c = 0) ∧ Hid (Below wo.heap.size wo wr)) (fun v _ => R - (intOf v).toNat)
   case atStart => exact ⟨0, Nat.zero_le _, rfl, Lib.hid (by rw [hx_]; have := HO.out; simpa using this), Lib.hid (fun i' h1 h2 => by omega), HW⟩
   case round =>
    clear HO HW
    obtain ⟨i, hi, rfl, HO, HZ, HW⟩ := hrel
    obtain ⟨w2, rfl⟩ : ∃ x : World, x = wr := ⟨_, rfl⟩
    have HM2 := Lib.hid (HM.out.below HW.out)
    by_cases hiR : i < R
    ·have fo := HM2.out.out i hiR
     have fe := HM2.out.cel i c hiR (by omega)
     by_cases hic : i < c
     ·obtain ⟨go, co, eo, hgo, hgl, _⟩ := Kd.yg_ HO.out (by rw [do_]; omega)
      rw [do_] at eo
      subst eo
      obtain ⟨sr, sf⟩ := Kd.of_ 0 HO.out (i : Int) (by omega) (by omega)
      rw [Int.toNat_natCast] at sr sf
      have HP := Lib.hid (Kd.bm_ HO.out (i : Int) (M1 i c))
      go_wp2
      have HP2 := HP.out
      rw [Int.toNat_natCast, gx_] at HP2
      have HP3 := Lib.hid HP2
      have HW3 := Lib.hid (HW.out.setCell (p := ⟨go, i, none⟩) hgo (.int .i64 (M1 i c)))
      clear HP2 HP sr sf
      go_roundw
      case rel => exact ⟨i + 1, by omega, by go_num, HP3, Lib.hid (fun i' h1 h2 => by omega), HW3⟩
      case measure => simp [intOf]; omega
     ·by_cases hz : M1 i c = 0
      ·have hb : ((M1 i c) != 0) = false := bne_eq_false_iff_eq.2 hz
       have HZ1 := Lib.hid hz
       clear hz
       go_wp2
       go_roundw
       case rel => exact ⟨i + 1, by omega, by go_num, Lib.hid (by rw [fx_ _ _ _ (by omega)]; exact HO.out), Lib.hid (fun i' h1 h2 => by rcases Nat.lt_or_ge i' i with h3 | h3; exact HZ.out i' h1 h3; rw [show i' = i from by omega]; exact HZ1.out), HW⟩
       case measure => simp [intOf]; omega
      ·have hb : ((M1 i c) != 0) = true := bne_iff_ne.2 hz
       have HS := Lib.hid (jw_ (R := R) (n := c) HG.out hiR (by omega) hz)
       clear hz
       go_wp2
       go_ret2
       exact ⟨_, by rw [HS.out]; rfl, by rw [HS.out]; exact Kd.uf_ _ _ _ _ _, nn_ HB.out (Nat.le_trans hbase HB.out.size) HW.out⟩
    ·obtain rfl : i = R := by omega
     have HS := Lib.hid (gn_ (n := c) HG.out HZ.out)
     go_wp2
     go_ret2
     exact ⟨_, by rw [HS.out]; rfl, by rw [HS.out]; rw [← rz_ M1 c i hcR]; exact Kd.wc_ HO.out HB.out.size, nn_ HB.out (Nat.le_trans hbase HB.out.size) HW.out⟩
end Go.Proofs.Ytpkhgapifnjbeaa.G
end
section
namespace Go.Proofs.Ytpkhgapifnjbeaa.Rs
set_option linter.unusedVariables false
set_option linter.unusedSimpArgs false
open GF
def gsum : Nat → (Nat → GF) → GF
 | 0, _ => 0
 | n + 1, f => gsum n f + f n
theorem vd_ {n : Nat} {f g : Nat → GF} (h : ∀ i, i < n → f i = g i) : gsum n f = gsum n g := by
 induction n with
 | zero => rfl
 | succ n ih => simp only [gsum]; rw [ih (fun i hi => h i (by omega)), h n (by omega)]
theorem dj_ (n : Nat) : gsum n (fun _ => 0) = 0 := by
 induction n with
 | zero => rfl
 | succ n ih => simp only [gsum]; rw [ih, add_zero]
theorem uj_ (n : Nat) (f g : Nat → GF) : gsum n (fun i => f i + g i) = gsum n f + gsum n g := by
 induction n with
 | zero => exact (add_zero 0).symm
 | succ n ih => simp only [gsum]; rw [ih]; ac_rfl
theorem ci_ (n : Nat) (c : GF) (f : Nat → GF) : gsum n (fun i => c * f i) = c * gsum n f := by
 induction n with
 | zero => exact (mul_zero c).symm
 | succ n ih => simp only [gsum]; rw [ih, mul_add]
theorem xm_ (n m : Nat) (f : Nat → Nat → GF) : gsum n (fun i => gsum m (f i)) = gsum m (fun j => gsum n (fun i => f i j)) := by
 induction n with
 | zero => simp only [gsum]; rw [dj_]
 | succ n ih => simp only [gsum]; rw [ih, ← uj_]
theorem mk_ (n : Nat) (f : Nat → GF) (p : Nat) (hp : p < n) (h : ∀ i, i < n → i ≠ p → f i = 0) : gsum n f = f p := by
 induction n with
 | zero => omega
 | succ n ih =>
  simp only [gsum]
  by_cases e : p = n
  ·subst e
   rw [vd_ (g := fun _ => 0) (fun i hi => h i (by omega) (by omega)), dj_, zero_add]
  ·rw [ih (by omega) (fun i hi hne => h i (by omega) hne), h n (by omega) (fun q => e q.symm), add_zero]
def vG (x : Int) : GF := if isEl x then toG x else 0
theorem uc1_ (a : GF) : vG (ofG a) = a := by simp [vG, jg_, yf_]
theorem co_ {x : Int} (h : isEl x = true) : ofG (vG x) = x := by
 have := (xd_ x).1 h
 simp [vG, h, vh_ this.1 this.2]
def psum (l : List Int) (j m : Nat) : GF := gsum m (fun i => vG (l.getD i 0) * ex (j * (l.length - 1 - i)))
def synI (l : List Int) : List Int := (List.range 6).map fun j => ofG (psum l (j + 1) l.length)
end Go.Proofs.Ytpkhgapifnjbeaa.Rs
end
section
namespace Go.Proofs.Ytpkhgapifnjbeaa.G
set_option linter.unusedVariables false
set_option linter.unusedSimpArgs false
open Go.RowKit Go.Proofs.YtpkhgapifnjbeaaW.PrintWords Go.Proofs.YtpkhgapifnjbeaaW.PrintLast Go.Proofs.YtpkhgapifnjbeaaW.PrintMore Go.Proofs.Ytpkhgapifnjbeaa.Rs
theorem cz_ (C : Array Value) (xs : List Int) (i : Int) (h0 : 0 ≤ i) (h6 : i < 6) (hl : xs.length = 6) (hC : C = (nums .i64 xs).toArray) (W : World) :
  (Instr.index 58 (.agg C) (.int .i64 i)).run Try.prog W = .ok (.int .i64 (rd xs i)) W := by
 have hx : C[i.toNat]? = some (.int .i64 (rd xs i)) := by
  subst hC
  simp [nums, rd, List.getD_eq_getElem?_getD, List.getElem?_eq_getElem (show i.toNat < xs.length by omega)]
 have hi : 0 ≤ i ∧ i < 6 := ⟨h0, h6⟩
 simp [Instr.index, asIntOf, run_underlying Try.underlying58, hi, hx, go_sem]
theorem mul_mx (x : Int) (n : Nat) : mulI (mx x 0) (powI (n : Int)) = ofG (vG x * GF.ex n) := by
 have hp : powI (n : Int) = ofG (GF.ex n) := by
  unfold powI
  rw [show ((n : Int) % 31).toNat = n % 31 from by omega, ← GF.zs_]
 rw [hp]
 unfold mx
 by_cases h : x < 0
 ·rw [if_pos h, ek_]
  have : isEl x = false := by simp [isEl]; omega
  simp [vG, this, GF.zero_mul, so_]
 ·rw [if_neg h]
  unfold mulI vG
  rw [jg_, yf_]
  by_cases hx : isEl x = true
  ·simp [hx]
  ·simp [hx, GF.zero_mul, so_]
def mixS (l : List Int) (i j : Nat) : List Int := (List.range 6).map fun j' => ofG (psum l (j' + 1) (if j' < j then i + 1 else i))
theorem ru_ (l : List Int) (i j : Nat) : (mixS l i j).length = 6 := by simp [mixS]
theorem ce1_ (l : List Int) (i j : Nat) (h : j < 6) : rd (mixS l i j) (j : Int) = ofG (psum l (j + 1) i) := by
 simp [mixS, rd, List.getD_eq_getElem?_getD, h]
theorem lb1_ (l : List Int) (i j : Nat) (h : j < 6) : (mixS l i j).set j (ofG (psum l (j + 1) (i + 1))) = mixS l i (j + 1) := by
 apply List.ext_getElem
 ·simp [mixS]
 ·intro k h1 h2
  rw [List.getElem_set]
  simp only [mixS, List.getElem_map, List.getElem_range]
  by_cases e : j = k
  ·subst e; simp
  ·rw [if_neg e]
   have : k < j + 1 ↔ k < j := by omega
   simp [this]
theorem kb1_ (l : List Int) (i : Nat) : mixS l i 6 = mixS l (i + 1) 0 := by
 apply List.ext_getElem
 ·simp [mixS]
 ·intro k h1 h2
  simp [mixS] at h1 ⊢
  simp [h1]
open Go.Proofs.Ytpkhgapifnjbeaa.S in
theorem syn_l1 (l : List Int) (hl : l.length ≤ 15) (i : Nat) (hi : i < l.length) : ∀ (d k j : Nat), j + d = 6 →
  cc_.l1 (d + 1 + k) l (mixS l i j) i (rd l i) l l.length i j = cc_.l0 k l (mixS l (i + 1) 0) l l.length (wrap64 ((i : Int) + 1)) := by
 intro d
 induction d with
 | zero =>
  intro k j hj
  obtain rfl : j = 6 := by omega
  rw [show 0 + 1 + k = k + 1 from by omega]
  simp only [cc_.l1]
  rw [if_neg (by decide), kb1_]
 | succ d ih =>
  intro k j hj
  rw [show d + 1 + 1 + k = (d + 1 + k) + 1 from by omega]
  simp only [cc_.l1]
  rw [if_pos (by omega), if_pos (by omega), if_pos (by rw [ru_]; omega)]
  have e1 : wrap64 (wrap64 ((j : Int) + 1) * wrap64 (wrap64 ((l.length : Int) - 1) - (i : Int))) = (((j + 1) * (l.length - 1 - i) : Nat) : Int) := by
   have a1 : wrap64 ((j : Int) + 1) = ((j + 1 : Nat) : Int) := by unfold wrap64; omega
   have a2 : wrap64 (wrap64 ((l.length : Int) - 1) - (i : Int)) = ((l.length - 1 - i : Nat) : Int) := by
    rw [show wrap64 ((l.length : Int) - 1) = ((l.length - 1 : Nat) : Int) from by unfold wrap64; omega]
    unfold wrap64; omega
   rw [a1, a2, ← Int.natCast_mul]
   have : (j + 1) * (l.length - 1 - i) ≤ 6 * 15 := Nat.mul_le_mul (by omega) (by omega)
   unfold wrap64
   omega
  rw [e1]
  simp only [de_.f, ud_.f, Option.bind_some]
  rw [mul_mx, ce1_ l i j (by omega), show Go.bits .xor .i64 (ofG (psum l (j + 1) i)) (ofG (vG (rd l ↑i) * GF.ex ((j + 1) * (l.length - 1 - i)))) = ofG (psum l (j + 1) i + vG (rd l ↑i) * GF.ex ((j + 1) * (l.length - 1 - i))) from zj_ _ _]
  have e2 : psum l (j + 1) i + vG (rd l ↑i) * GF.ex ((j + 1) * (l.length - 1 - i)) = psum l (j + 1) (i + 1) := by
   simp [psum, gsum, rd]
  rw [e2, show (j : Int).toNat = j from by omega, lb1_ l i j (by omega), show wrap64 ((j : Int) + 1) = ((j + 1 : Nat) : Int) from by unfold wrap64; omega]
  exact ih k (j + 1) (by omega)
open Go.Proofs.Ytpkhgapifnjbeaa.S in
theorem syn_l0 (l : List Int) (hl : l.length ≤ 15) : ∀ (d i : Nat), i + d = l.length → ∃ k, cc_.l0 k l (mixS l i 0) l l.length (i : Int) = some (synI l) := by
 intro d
 induction d with
 | zero =>
  intro i hi
  refine ⟨1, ?_⟩
  simp only [cc_.l0]
  rw [if_neg (by omega)]
  obtain rfl : i = l.length := by omega
  rfl
 | succ d ih =>
  intro i hi
  obtain ⟨k, hk⟩ := ih (i + 1) (by omega)
  refine ⟨6 + 1 + k + 1, ?_⟩
  simp only [cc_.l0]
  rw [if_pos (by omega), if_pos (by omega), if_pos (by omega)]
  have := syn_l1 l hl i (by omega) 6 k 0 (by omega)
  rw [show ((0 : Nat) : Int) = 0 from rfl] at this
  rw [this, show wrap64 ((i : Int) + 1) = ((i + 1 : Nat) : Int) from by unfold wrap64; omega]
  exact hk
def yl_.f (l : List Int) : Option (List Int) := if l.length ≤ 15 then some (synI l) else none
theorem sa1_ {C : Array Value} {xs : List Int} (h : C = (nums .i64 xs).toArray) (hl : xs.length = 6) : (Try.prog.info? 58).map (·.size) = some C.size := by
 rw [show C.size = 6 from by rw [h]; simp [nums, hl]]
 kernel_rfl
theorem gd1_ {C : Array Value} {xs : List Int} (h : C = (nums .i64 xs).toArray) (hl : xs.length = 6) : (6 : Nat) = C.size := by rw [h]; simp [nums, hl]
theorem fd1_ {C : Array Value} {xs : List Int} (h : C = (nums .i64 xs).toArray) : C.all (·.oneCell') = true := by rw [h]; simp [nums, Value.oneCell']
theorem ed1_ (e : Nat) (W : World) (base : Nat) {C : Array Value} {xs : List Int} (h : C = (nums .i64 xs).toArray) (hl : xs.length = 6) (hb : base ≤ W.heap.size) :
  Kd.R (Kd.int .i64) e (W.alloc (.cells C e)) base (fun _ => True) (.slice (some ⟨W.heap.size, 0, none⟩) 6 6) xs := by
 subst h
 have := hc1_ (W := W.alloc (.cells (nums .i64 xs).toArray e)) (e := e) (g := W.heap.size) (base := base) (ok := fun _ => True) xs (heap_alloc_new _ _) hb trivial (by omega)
 rwa [hl] at this
theorem kj_ {l r : List Int} (h : yl_.f l = some r) : r.length = 6 := by
 unfold yl_.f at h
 split at h
 ·rw [← Option.some.inj h]; simp [synI]
 ·cases h
open Go.Proofs.Ytpkhgapifnjbeaa.S in
theorem yl_.calls (A0 : Option Addr) (c0 : Nat) (l0 : List Int) (r : List Int) (w : World) (hr0 : Kd.C (Kd.int .i64) w A0 l0.length l0) (hc0 : l0.length ≤ c0) (h : yl_.f l0 = some r) :
  Calls Try.prog 50 #[.slice A0 l0.length c0] w fun e w' => ∃ C : Array Value, C = (nums .i64 r).toArray ∧ e = .returned (.agg C) ∧ Below w.heap.size w w' := by
 unfold yl_.f at h
 by_cases hl : l0.length ≤ 15
 ·rw [if_pos hl] at h
  obtain ⟨k, hk⟩ := syn_l0 l0 hl l0.length 0 (by omega)
  refine (cc_.calls k A0 c0 l0 r w hr0 hc0 ?_).mono fun e w' ⟨he, hb⟩ => ⟨_, rfl, he, hb⟩
  unfold cc_.f
  rw [if_pos (by decide), ← h]
  rw [show (List.replicate 6 (0 : Int)) = mixS l0 0 0 from by simp [mixS, psum, gsum, so_, List.range_succ, List.replicate]]
  exact hk
 ·rw [if_neg hl] at h
  cases h
def kg_ (xs : List (List Int)) : Nat → Nat → Int := fun i k => (xs.getD i []).getD k 0
def jr_ (xs : List (List Int)) (C : Nat) : Bool := decide (1 ≤ xs.length ∧ xs.length ≤ 100 ∧ 1 ≤ C ∧ C ≤ 101) && xs.all fun x => decide (x.length = C)
def ti_.f (xs : List (List Int)) : Option (List Int × Bool) :=
 if jr_ xs (xs.headD []).length = true then some (solR xs.length ((xs.headD []).length - 1) (kg_ xs)) else none
theorem ti_.calls (base : Nat) (ok : Nat → Prop) (A0 : Option Addr) (c0 : Nat) (l0 : List (List Int)) (r1 : List Int) (r2 : Bool) (w : World) (HS : Kd.S (Kd.slice 57 (Kd.int .i64)) 69 w base ok (.slice A0 l0.length c0) l0) (hb : base ≤ w.heap.size) (h : ti_.f l0 = some (r1, r2)) :
  Calls Try.prog 63 #[.slice A0 l0.length c0] w fun e w' => ∃ v0_ : Value, e = .returned (.tuple #[v0_, .bool r2]) ∧ Kd.R (Kd.int .i64) 57 w' w.heap.size (fun _ => True) v0_ r1 ∧ Below base w w' := by
 unfold ti_.f at h
 generalize (l0.headD []).length = C at h
 by_cases hk : jr_ l0 C = true
 ·rw [if_pos hk] at h
  unfold jr_ at hk
  simp only [Bool.and_eq_true, decide_eq_true_eq, List.all_eq_true] at hk
  obtain ⟨⟨h1, h2, h3, h4⟩, h5⟩ := hk
  obtain ⟨g, cap, hh, cc, he, hM⟩ := jb1_ HS (by omega) (fun x hx => by simpa using h5 x hx) (by omega)
  injection he with e1 _ e3
  subst e1
  subst e3
  have h6 := Option.some.inj h
  obtain ⟨n, rfl⟩ : ∃ n, C = n + 1 := ⟨C - 1, by omega⟩
  have := wx_ base g l0.length n c0 hh cc (kg_ l0) w hM h1 h2 (by omega) hb
  rw [show n + 1 - 1 = n from by omega] at h6
  unfold cy_ at this
  rw [h6] at this
  exact this
 ·rw [if_neg hk] at h
  cases h
end Go.Proofs.Ytpkhgapifnjbeaa.G
end
section
namespace Go.Proofs.Ytpkhgapifnjbeaa.C
open Go.RowKit Go.Proofs.Ytpkhgapifnjbeaa.G Go.Proofs.YtpkhgapifnjbeaaW.PrintWords Go.Proofs.YtpkhgapifnjbeaaW.PrintLast Go.Proofs.YtpkhgapifnjbeaaW.PrintMore
attribute [local go_sem] dd_ fd_ rd_ sd_ uc_ vc_ ed_ gd_
set_option linter.unusedVariables false
set_option linter.unusedSimpArgs false
def errW : Option Int → Value
 | none => .nilIface
 | some c => .iface 0 (.int .i64 c)
theorem bb_ : errW none = .nilIface := rfl
theorem cb_ (c : Int) : errW (some c) = .iface 0 (.int .i64 c) := rfl
theorem te_ : (Try.prog.info? 3).map (fun i => (i.zero, i.size, i.bytes)) = some (some (.int .i64 0), 1, 8) := by kernel_rfl
end Go.Proofs.Ytpkhgapifnjbeaa.C
end
section
namespace Go.Proofs.Ytpkhgapifnjbeaa.C
open Go.RowKit Go.Proofs.Ytpkhgapifnjbeaa.G Go.Proofs.YtpkhgapifnjbeaaW.PrintWords Go.Proofs.YtpkhgapifnjbeaaW.PrintLast Go.Proofs.YtpkhgapifnjbeaaW.PrintMore
attribute [local go_sem] dd_ fd_ rd_ sd_ uc_ vc_ ed_ gd_
set_option linter.unusedVariables false
set_option linter.unusedSimpArgs false
def ng_.f (l0 : List Int) : Option (List Int) := (some (([] : List Int) : List Int)).bind fun y101 => (if y101.length + l0.length < 17592186044416 then (some (y101 ++ l0)) else (none))
set_option maxHeartbeats 8000000 in
set_option maxRecDepth 100000 in
theorem ng_.callsS (a0_ : Addr) (c0 : Nat) (l0 : List Int) (r : List Int) (w : World) (hr0 : Kd.C (Kd.int .i64) w (some a0_) l0.length l0) (hc0 : l0.length ≤ c0) (h : ng_.f l0 = some r) :
  Calls Try.prog 64 #[.slice (some a0_) l0.length c0] w fun e w' => ∃ v0_ : Value, e = .returned (v0_) ∧ Kd.R (Kd.int .i64) 3 w' w.heap.size (fun _ => True) v0_ r ∧ Below w.heap.size w w' := by
 have HR0 := ba_.mk hr0
 have HC0 := ba_.mk hc0
 clear hr0 hc0
 have HB := ba_.mk (Below.refl w.heap.size w)
 have H : ((some (([] : List Int) : List Int)).bind fun y101 => (if y101.length + l0.length < 17592186044416 then (some (y101 ++ l0)) else (none))) = some r := h
 clear h
 obtain ⟨y101, hy101⟩ : ∃ y_ : List Int, y_ = (([] : List Int)) := ⟨_, rfl⟩
 replace H : (if y101.length + l0.length < 17592186044416 then (some (y101 ++ l0)) else (none)) = some r := by first | (rw [hy101]; with_reducible exact H) | (have H2_ := (Option.bind_some _ _).symm.trans H; rw [hy101]; with_reducible exact H2_) | (have H2_ := (Option.bind_some _ _).symm.trans H; with_reducible exact H2_) | with_reducible exact H | (rw [hy101]; exact H) | exact H
 have Ny101 := ba_.mk hy101
 clear hy101
 by_cases c2 : y101.length + l0.length < 17592186044416
 ·rw [if_pos c2] at H
  have LMc2 := ba_.mk c2
  clear c2
  obtain ⟨y104, hy104⟩ : ∃ y_ : List Int, y_ = (y101 ++ l0) := ⟨_, rfl⟩
  replace H : (some y104) = some r := by first | (rw [hy104]; with_reducible exact H) | (have H2_ := (Option.bind_some _ _).symm.trans H; rw [hy104]; with_reducible exact H2_) | (have H2_ := (Option.bind_some _ _).symm.trans H; with_reducible exact H2_) | with_reducible exact H | (rw [hy104]; exact H) | exact H
  have Ny104 := ba_.mk hy104
  clear hy104
  obtain rfl := Option.some.inj H
  have qT : ∀ (w : World) (a : Option Addr) (n c n' c' : Nat), (binOp .eql 27 (.slice a n c) (.slice none n' c')).run Try.prog w = .ok (.bool a.isNone) w := fun w a n c n' c' => Lib.run_eql_slice_nil w _ _ a n c n' c' Try.underlying27
  go_enter Try.func64, Try.ntmps64
  go_wp2_with (first | ((with_reducible refine yd_ (N := 5) rfl ?_); refine Kd.ri_ (Kd.int .i64) _ 3 ?hg (N := 5) ?hd (xs := ([] : List Int)) (inner := []) (ok := fun _ => True) (okp := fun _ => True) ?hr ?hp (fun _ hk => hk) trivial (Below.refl _ _) (Nat.le_refl _) (by simp) ?_; (case hd => rfl); (case hg => rfl); (case hr => first | (go_simp; done) | (go_simp; rfl)); (case hp => exact (Reps.none _ _)); intro v102 w3 ho4 hb hg_ hnew_; clear hg_ hnew_; (first | rw [← Ny101.out] at ho4 | (simp only [Int.reduceToNat] at ho4; rw [← Ny101.out] at ho4)); have n0_ := ba_.mk (Kd.wc_ ho4 (eb_ (by repeat (first | (with_reducible first | exact HB.out | apply fa_ | apply ca_ | apply ga_) | exact HB.out)))); have n1_ := ba_.mk (gb_ (by repeat (first | (with_reducible first | exact HB.out | apply fa_ | apply ca_ | apply ga_) | exact HB.out)) hb); clear HB; have HO103 := n0_; have HB := n1_; clear n0_ n1_; clear hb ho4) | ((with_reducible refine hd_ (b := .append) (xs := #[.tmp 5, .tmp 6]) rfl ?_); at_builtin; refine Kd.af_ (Kd.int .i64) (w0 := w) w.heap.size rfl (.tmp 5) (.tmp 6) 27 3 (.int .i64 0) 8 rfl Try.underlying27 te_ rfl (by decide) (by omega) v102 y101 l0 _ _ _ (fun _ => True) (fun _ => False) rfl rfl ?aO ?aR (fun _ _ h => h) (fun _ h => h.elim) ?aF ?aB ?aS ?aL ?_; (case aR => repeat (first | exact (Kd.ie_ HR0.out HB.out) | (with_reducible refine Kd.yb_ ?_ _) | (with_reducible refine Kd.zb_ ?_ _) | (with_reducible refine Kd.jc_ ?_))); (case aB => exact (by repeat (first | (with_reducible first | exact HB.out | apply fa_ | apply ca_ | apply ga_) | exact HB.out))); (case aF => exact (fun _ _ => trivial)); (case aO => exact (by (with_reducible repeat (first | apply Kd.la_ | apply Kd.ka_ | apply Kd.ma_)); exact HO103.out)); (case aS => exact (eb_ (by repeat (first | (with_reducible first | exact HB.out | apply fa_ | apply ca_ | apply ga_) | exact HB.out)))); (case aL => have := LMc2.out; omega); intro v105 w5 ho hb hg hat; rw [← Ny104.out] at ho; have n0_ := ba_.mk (hb); have n1_ := ba_.mk (ho); clear HB; clear HO103; have HB := n0_; have HO106 := n1_; clear n0_ n1_; clear ho hb hg hat))
  go_ret
  exact ⟨_, by first | rfl | (simp [bb_, cb_] <;> rfl) | (simp [*, bb_, cb_] <;> rfl), by (with_reducible repeat (first | apply Kd.la_ | apply Kd.ka_ | apply Kd.ma_)); exact HO106.out, by repeat (first | (with_reducible first | exact HB.out | apply fa_ | apply ca_ | apply ga_) | exact HB.out)⟩
 ·rw [if_neg c2] at H
  exact absurd H (by simp)
def bd_.f (a0 : Int) : Option (Int) := if (wrap64 (a0 * 2)) ≥ 32 then (some (Go.bits .xor .i64 (wrap64 (a0 * 2)) 37)) else (some (wrap64 (a0 * 2)))
set_option maxHeartbeats 8000000 in
set_option maxRecDepth 100000 in
theorem bd_.calls (a0 : Int) (r : Int) (w : World) (h : bd_.f a0 = some r) :
  Calls Try.prog 41 #[.int .i64 a0] w fun e w' => e = .returned (.int .i64 r) ∧ ra_ w w' := by
 have H : (if (wrap64 (a0 * 2)) ≥ 32 then (some (Go.bits .xor .i64 (wrap64 (a0 * 2)) 37)) else (some (wrap64 (a0 * 2)))) = some r := h
 clear h
 by_cases c2 : (wrap64 (a0 * 2)) ≥ 32
 ·rw [if_pos c2] at H
  have c2b0 : decide (32 ≤ (wrap64 (a0 * 2))) = true := decide_eq_true c2
  clear c2
  obtain rfl := Option.some.inj H
  go_enter Try.func41, Try.ntmps41
  go_wp2
  go_ret
  exact ⟨by first | rfl | (simp; done) | (simp [*]; done), by repeat (first | exact ra_.refl _ | apply ra_.step)⟩
 ·rw [if_neg c2] at H
  have c2b0 : decide (32 ≤ (wrap64 (a0 * 2))) = false := decide_eq_false c2
  clear c2
  obtain rfl := Option.some.inj H
  go_enter Try.func41, Try.ntmps41
  go_wp2
  go_ret
  exact ⟨by first | rfl | (simp; done) | (simp [*]; done), by repeat (first | exact ra_.refl _ | apply ra_.step)⟩
end Go.Proofs.Ytpkhgapifnjbeaa.C
end
section
namespace Go.Proofs.Ytpkhgapifnjbeaa.C
open Go.RowKit Go.Proofs.Ytpkhgapifnjbeaa.G Go.Proofs.YtpkhgapifnjbeaaW.PrintWords Go.Proofs.YtpkhgapifnjbeaaW.PrintLast Go.Proofs.YtpkhgapifnjbeaaW.PrintMore
attribute [local go_sem] dd_ fd_ rd_ sd_ uc_ vc_ ed_ gd_
set_option linter.unusedVariables false
set_option linter.unusedSimpArgs false
end Go.Proofs.Ytpkhgapifnjbeaa.C
end
section
namespace Go.Proofs.Ytpkhgapifnjbeaa.G
set_option linter.unusedVariables false
set_option linter.unusedSimpArgs false
open Go.RowKit Go.Proofs.YtpkhgapifnjbeaaW.PrintWords Go.Proofs.YtpkhgapifnjbeaaW.PrintLast Go.Proofs.YtpkhgapifnjbeaaW.PrintMore Go.Proofs.Ytpkhgapifnjbeaa.Rs
theorem gy_ (c0 : Nat) (w : World) : Calls Try.prog 64 #[.slice none 0 c0] w fun e w' => e = .returned (.slice none 0 0) ∧ w = w' := by
 have qT : ∀ (w : World) (a : Option Addr) (n c n' c' : Nat), (binOp .eql 27 (.slice a n c) (.slice none n' c')).run Try.prog w = .ok (.bool a.isNone) w := fun w a n c n' c' => Lib.run_eql_slice_nil w _ _ a n c n' c' Try.underlying27
 go_enter Try.func64, Try.ntmps64
 go_wp2
 go_ret
 exact ⟨rfl, rfl⟩
def si_.f (l : List Int) : Option (List Int) := if l.length < 17592186044416 then some l else none
open Go.Proofs.Ytpkhgapifnjbeaa.C in
theorem si_.calls (A0 : Option Addr) (c0 : Nat) (l0 : List Int) (r : List Int) (w : World) (hr0 : Kd.C (Kd.int .i64) w A0 l0.length l0) (hc0 : l0.length ≤ c0) (h : si_.f l0 = some r) :
  Calls Try.prog 64 #[.slice A0 l0.length c0] w fun e w' => ∃ v0_ : Value, e = .returned (v0_) ∧ Kd.R (Kd.int .i64) 3 w' w.heap.size (fun _ => True) v0_ r ∧ Below w.heap.size w w' := by
 unfold si_.f at h
 by_cases hl : l0.length < 17592186044416
 ·rw [if_pos hl] at h
  obtain rfl := Option.some.inj h
  cases A0 with
  | some a =>
   refine ng_.callsS a c0 l0 l0 w hr0 hc0 ?_
   unfold ng_.f
   simp [hl]
  | none =>
   have h0 : l0 = [] := by
    cases l0 with
    | nil => rfl
    | cons x xs =>
     obtain ⟨ad, he, _⟩ := Kd.nd_ hr0 0 (by omega) (by simp)
     cases he
   subst h0
   exact (gy_ c0 w).mono fun e w' ⟨he, hw⟩ => ⟨_, he, Kd.uf_ _ _ _ _ _, hw ▸ Below.refl _ _⟩
 ·rw [if_neg hl] at h
  cases h
end Go.Proofs.Ytpkhgapifnjbeaa.G
end
section
namespace Go.Proofs.Ytpkhgapifnjbeaa.G
set_option linter.unusedVariables false
set_option linter.unusedSimpArgs false
open Go.RowKit Go.Proofs.YtpkhgapifnjbeaaW.PrintWords
def th_ (least x : Int) : Bool := decide (x < least) || decide (32 ≤ x)
theorem wordC (x least : Int) (B : Nat) (W : World) (hc : W.cell? ⟨B, 0, none⟩ = some (.int .i64 least)) :
  Calls Try.prog 60 #[.int .i64 x, .pointer (some ⟨B, 0, none⟩)] W fun e w' => e = .returned (.bool (th_ least x)) ∧ W = w' := by
 by_cases h1 : x < least <;> by_cases h2 : 32 ≤ x
 all_goals
  go_enter Try.func60, Try.ntmps60
  go_wp2
  go_ret
  exact ⟨by simp [th_, h1, h2], rfl⟩
theorem wordY (x least : Int) (B : Nat) (W : World) (hc : W.cell? ⟨B, 0, none⟩ = some (.int .i64 least)) (b : Bool) (hb : th_ least x = b) :
  Calls Try.prog 60 #[.int .i64 x, .pointer (some ⟨B, 0, none⟩)] W fun e w' => e = .returned (.bool b) ∧ W = w' := hb ▸ wordC x least B W hc
theorem qv_ (p : Int → Bool) (l : List Int) (k : Int) (h0 : 0 ≤ k) (h : k < l.length) : (l.take (k + 1).toNat).any p = ((l.take k.toNat).any p || p (rd l k)) := by
 have e : (k + 1).toNat = k.toNat + 1 := by omega
 have hk : k.toNat < l.length := by omega
 rw [e, List.take_succ_eq_append_getElem hk, List.any_append]
 simp [rd, hk]
theorem ur_ (p : Int → Bool) (l : List Int) (k : Int) (h0 : 0 ≤ k) (h : k < l.length) (hp : p (rd l k) = true) : l.any p = true := by
 have hk : k.toNat < l.length := by omega
 refine List.any_eq_true.2 ⟨l[k.toNat], List.getElem_mem _, ?_⟩
 simpa [rd, hk] using hp
theorem dd1_ (p : Int → Bool) (l : List Int) (k : Int) (hk : ¬ k < l.length) (hp : (l.take k.toNat).any p = false) : l.any p = false := by
 rwa [List.take_of_length_le (by omega)] at hp
set_option maxHeartbeats 1000000 in
theorem idxF (least : Int) (B : Nat) (w : World) (hc : w.cell? ⟨B, 0, none⟩ = some (.int .i64 least)) (A : Option Addr) (c : Nat) (l : List Int) (hr : Kd.C (Kd.int .i64) w A l.length l) (hl : l.length ≤ 9223372036854775807) :
  Calls Try.prog 69 #[.slice A l.length c, .func (.func 60) #[] #[.pointer (some ⟨B, 0, none⟩)]] w fun e w' => (∃ r : Int, e = .returned (.int .i64 r) ∧ decide (0 ≤ r) = l.any (th_ least)) ∧ w = w' := by
 have HR := Lib.hid hr
 clear hr
 go_enter Try.func69, Try.ntmps69
 go_wp2
 go_loop [8] (fun v => ∃ k : Int, 0 ≤ k ∧ k ≤ l.length ∧ v = .int .i64 k ∧ Hid ((l.take k.toNat).any (th_ least) = false)) (fun v => l.length - (intOf v).toNat)
 case atStart => exact ⟨0, by omega, by omega, rfl, Lib.hid (by simp)⟩
 case round =>
  obtain ⟨k, hk0, hk, rfl, HN⟩ := hrel
  by_cases hlt : k < l.length
  ·have hs := qv_ (th_ least) l k hk0 hlt
   have hh := ur_ (th_ least) l k hk0 hlt
   have HS := Lib.hid hs
   have HH := Lib.hid hh
   clear hs hh
   obtain ⟨ad, e1, hx⟩ := Kd.nd_ HR.out k hk0 hlt
   subst e1
   cases hb : th_ least (rd l k)
   ·have HB := Lib.hid hb
    clear hb
    go_wp2_with (first | (go_at_call 60; refine (wordY _ _ _ _ hc _ HB.out).mono ?_; rintro e w' ⟨rfl, rfl⟩))
    go_round
    case rel => exact ⟨k + 1, by omega, by omega, rfl, Lib.hid (by rw [HS.out, HN.out, HB.out]; rfl)⟩
    case measure => simp [intOf]; omega
   ·have HB := Lib.hid hb
    clear hb
    go_wp2_with (first | (go_at_call 60; refine (wordY _ _ _ _ hc _ HB.out).mono ?_; rintro e w' ⟨rfl, rfl⟩))
    go_ret
    exact ⟨⟨k, rfl, by rw [HH.out HB.out]; simp [hk0]⟩, rfl⟩
  ·have HE := Lib.hid (dd1_ (th_ least) l k hlt HN.out)
   go_wp2
   go_ret
   exact ⟨⟨-1, rfl, by rw [HE.out]; rfl⟩, rfl⟩
set_option maxHeartbeats 1000000 in
theorem conF (least : Int) (B : Nat) (w : World) (hc : w.cell? ⟨B, 0, none⟩ = some (.int .i64 least)) (A : Option Addr) (c : Nat) (l : List Int) (hr : Kd.C (Kd.int .i64) w A l.length l) (hl : l.length ≤ 9223372036854775807) :
  Calls Try.prog 59 #[.slice A l.length c, .func (.func 60) #[] #[.pointer (some ⟨B, 0, none⟩)]] w fun e w' => e = .returned (.bool (l.any (th_ least))) ∧ w = w' := by
 have HR := Lib.hid hr
 clear hr
 go_enter Try.func59, Try.ntmps59
 go_wp2_with (first | (go_at_call 69; refine (idxF _ _ _ hc A c l HR.out hl).mono ?_; rintro e w' ⟨⟨r, rfl, hr⟩, rfl⟩; have H9 := Lib.hid hr; clear hr))
 go_ret
 exact ⟨congrArg (fun b => Ending.returned (.bool b)) (by rw [← H9.out]), rfl⟩
def fi_.f (l0 : List Int) (a1 : Int) : Option Bool := some (decide (7 ≤ l0.length ∧ l0.length ≤ 15) && !(l0.any (th_ a1)))
set_option maxHeartbeats 1000000 in
theorem fi_.calls (A0 : Option Addr) (c0 : Nat) (l0 : List Int) (a1 : Int) (r : Bool) (w : World) (hr0 : Kd.C (Kd.int .i64) w A0 l0.length l0) (hc0 : l0.length ≤ c0) (h : fi_.f l0 a1 = some r) :
  Calls Try.prog 45 #[.slice A0 l0.length c0, .int .i64 a1] w fun e w' => e = .returned (.bool r) ∧ Below w.heap.size w w' := by
 obtain rfl := Option.some.inj h
 clear h
 have HR := Lib.hid hr0
 clear hr0 hc0
 by_cases h1 : 7 ≤ l0.length
 ·by_cases h2 : l0.length ≤ 15
  ·have e1 : decide (7 ≤ l0.length ∧ l0.length ≤ 15) = true := decide_eq_true ⟨h1, h2⟩
   have E1 := Lib.hid e1
   clear e1
   have b1 : decide (7 ≤ (l0.length : Int)) = true := by simp; omega
   have b2 : decide ((l0.length : Int) ≤ 15) = true := by simp; omega
   go_enter Try.func45, Try.ntmps45
   go_wp2_with (first | (go_at_call 59; refine (conF a1 _ _ (by simp) A0 c0 l0 ?_ (by omega)).mono ?_; exact Kd.ie_ HR.out ((Below.refl _ _).alloc (Nat.le_refl _) _); rintro e w' ⟨rfl, rfl⟩))
   go_ret
   exact ⟨congrArg (fun b => Ending.returned (.bool b)) (by rw [E1.out]; rfl), (Below.refl _ _).alloc (Nat.le_refl _) _⟩
  ·have e1 : decide (7 ≤ l0.length ∧ l0.length ≤ 15) = false := decide_eq_false (by omega)
   have E1 := Lib.hid e1
   clear e1
   have b1 : decide (7 ≤ (l0.length : Int)) = true := by simp; omega
   have b2 : decide ((l0.length : Int) ≤ 15) = false := by simp; omega
   go_enter Try.func45, Try.ntmps45
   go_wp2
   go_ret
   exact ⟨congrArg (fun b => Ending.returned (.bool b)) (by rw [E1.out]; rfl), (Below.refl _ _).alloc (Nat.le_refl _) _⟩
 ·have e1 : decide (7 ≤ l0.length ∧ l0.length ≤ 15) = false := decide_eq_false (by omega)
  have E1 := Lib.hid e1
  clear e1
  have b1 : decide (7 ≤ (l0.length : Int)) = false := by simp; omega
  go_enter Try.func45, Try.ntmps45
  go_wp2
  go_ret
  exact ⟨congrArg (fun b => Ending.returned (.bool b)) (by rw [E1.out]; rfl), (Below.refl _ _).alloc (Nat.le_refl _) _⟩
end Go.Proofs.Ytpkhgapifnjbeaa.G
end
section
namespace Go.Proofs.Ytpkhgapifnjbeaa.Q
open Go.RowKit Go.Proofs.Ytpkhgapifnjbeaa.G Go.Proofs.YtpkhgapifnjbeaaW.PrintWords Go.Proofs.YtpkhgapifnjbeaaW.PrintLast Go.Proofs.YtpkhgapifnjbeaaW.PrintMore
attribute [local go_sem] dd_ fd_ rd_ sd_ uc_ vc_ ed_ gd_
set_option linter.unusedVariables false
set_option linter.unusedSimpArgs false
def errW : Option Int → Value
 | none => .nilIface
 | some c => .iface 0 (.int .i64 c)
theorem bb_ : errW none = .nilIface := rfl
theorem cb_ (c : Int) : errW (some c) = .iface 0 (.int .i64 c) := rfl
end Go.Proofs.Ytpkhgapifnjbeaa.Q
end
