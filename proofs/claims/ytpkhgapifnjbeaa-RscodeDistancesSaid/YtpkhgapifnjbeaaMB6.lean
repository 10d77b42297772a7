/- A part of the proofs of this seat's statements (texts put together by pack2.py of this claim's repo). -/
import Derived.Test.YtpkhgapifnjbeaaMB5
section
namespace Go.Proofs.Ytpkhgapifnjbeaa.W
open Go.RowKit Go.Proofs.Ytpkhgapifnjbeaa.G Go.Proofs.Ytpkhgapifnjbeaa.Rs Go.Proofs.YtpkhgapifnjbeaaW.PrintWords Go.Proofs.YtpkhgapifnjbeaaW.PrintLast Go.Proofs.YtpkhgapifnjbeaaW.PrintMore
attribute [local go_sem] dd_ fd_ rd_ sd_ uc_ vc_ ed_ gd_
set_option linter.unusedVariables false
set_option linter.unusedSimpArgs false
def if_.f (a0 : Int) (a1 : Int) : Option (Int × Int) := some (((IntKind.u64.wrap ((IntKind.u64.wrap (a0)) * (IntKind.u64.wrap (a1)))) / 4294967296) % 4294967296, (IntKind.u64.wrap ((IntKind.u64.wrap (a0)) * (IntKind.u64.wrap (a1)))) % 4294967296)
set_option maxHeartbeats 8000000 in
set_option maxRecDepth 100000 in
theorem if_.calls (a0 : Int) (a1 : Int) (r1 : Int) (r2 : Int) (w : World) (h : if_.f a0 a1 = some (r1, r2)) :
  Calls Try.prog 67 #[.int .u32 a0, .int .u32 a1] w fun e w' => e = .returned (.tuple #[.int .u32 r1, .int .u32 r2]) ∧ ra_ w w' := by
 have H : (some (((IntKind.u64.wrap ((IntKind.u64.wrap (a0)) * (IntKind.u64.wrap (a1)))) / 4294967296) % 4294967296, (IntKind.u64.wrap ((IntKind.u64.wrap (a0)) * (IntKind.u64.wrap (a1)))) % 4294967296)) = some (r1, r2) := h
 clear h
 simp only [Option.some.injEq, Prod.mk.injEq] at H
 obtain ⟨rfl, rfl⟩ := H
 go_enter Try.func67, Try.ntmps67
 go_wp2
 go_ret2
 exact ⟨by first | rfl | (simp; done) | (simp [*]; done), by repeat (first | exact ra_.refl _ | apply ra_.step)⟩
def be_.f (a0 : Int) (a1 : Int) : Option (Int × Int) := some (IntKind.u64.wrap ((IntKind.u64.wrap ((IntKind.u64.wrap ((a0 / 4294967296) * (a1 / 4294967296))) + ((IntKind.u64.wrap ((IntKind.u64.wrap ((a0 / 4294967296) * (Go.bits .and .u64 a1 4294967295))) + ((IntKind.u64.wrap ((Go.bits .and .u64 a0 4294967295) * (Go.bits .and .u64 a1 4294967295))) / 4294967296))) / 4294967296))) + ((IntKind.u64.wrap ((Go.bits .and .u64 (IntKind.u64.wrap ((IntKind.u64.wrap ((a0 / 4294967296) * (Go.bits .and .u64 a1 4294967295))) + ((IntKind.u64.wrap ((Go.bits .and .u64 a0 4294967295) * (Go.bits .and .u64 a1 4294967295))) / 4294967296))) 4294967295) + (IntKind.u64.wrap ((Go.bits .and .u64 a0 4294967295) * (a1 / 4294967296))))) / 4294967296)), IntKind.u64.wrap (a0 * a1))
set_option maxHeartbeats 8000000 in
set_option maxRecDepth 100000 in
theorem be_.calls (a0 : Int) (a1 : Int) (r1 : Int) (r2 : Int) (w : World) (h : be_.f a0 a1 = some (r1, r2)) :
  Calls Try.prog 68 #[.int .u64 a0, .int .u64 a1] w fun e w' => e = .returned (.tuple #[.int .u64 r1, .int .u64 r2]) ∧ ra_ w w' := by
 have H : (some (IntKind.u64.wrap ((IntKind.u64.wrap ((IntKind.u64.wrap ((a0 / 4294967296) * (a1 / 4294967296))) + ((IntKind.u64.wrap ((IntKind.u64.wrap ((a0 / 4294967296) * (Go.bits .and .u64 a1 4294967295))) + ((IntKind.u64.wrap ((Go.bits .and .u64 a0 4294967295) * (Go.bits .and .u64 a1 4294967295))) / 4294967296))) / 4294967296))) + ((IntKind.u64.wrap ((Go.bits .and .u64 (IntKind.u64.wrap ((IntKind.u64.wrap ((a0 / 4294967296) * (Go.bits .and .u64 a1 4294967295))) + ((IntKind.u64.wrap ((Go.bits .and .u64 a0 4294967295) * (Go.bits .and .u64 a1 4294967295))) / 4294967296))) 4294967295) + (IntKind.u64.wrap ((Go.bits .and .u64 a0 4294967295) * (a1 / 4294967296))))) / 4294967296)), IntKind.u64.wrap (a0 * a1))) = some (r1, r2) := h
 clear h
 simp only [Option.some.injEq, Prod.mk.injEq] at H
 obtain ⟨rfl, rfl⟩ := H
 go_enter Try.func68, Try.ntmps68
 go_wp2
 go_ret2
 exact ⟨by first | rfl | (simp; done) | (simp [*]; done), by repeat (first | exact ra_.refl _ | apply ra_.step)⟩
def zf_.f (a0 : Int) (a1 : Int) : Option (Int × Int) := (be_.f a0 a1).bind fun bt101 => (some (bt101.1, bt101.2))
set_option maxHeartbeats 8000000 in
set_option maxRecDepth 100000 in
theorem zf_.calls (a0 : Int) (a1 : Int) (r1 : Int) (r2 : Int) (w : World) (h : zf_.f a0 a1 = some (r1, r2)) :
  Calls Try.prog 58 #[.int .u64 a0, .int .u64 a1] w fun e w' => e = .returned (.tuple #[.int .u64 r1, .int .u64 r2]) ∧ ra_ w w' := by
 have H : ((be_.f a0 a1).bind fun bt101 => (some (bt101.1, bt101.2))) = some (r1, r2) := h
 clear h
 replace H := Option.bind_eq_some_iff.mp H
 obtain ⟨⟨t101, t102⟩, A30, H⟩ := H
 replace H : (some (t101, t102)) = some (r1, r2) := H
 have A3 := ba_.mk A30
 clear A30
 simp only [Option.some.injEq, Prod.mk.injEq] at H
 obtain ⟨rfl, rfl⟩ := H
 go_enter Try.func58, Try.ntmps58
 go_wp2_with (first | ((with_reducible refine ua_ (f := 68) rfl ?_); refine hc_ (some 25) rfl rfl Try.func68 (by kernel_rfl) rfl #[.int .u64 a0, .int .u64 a1] rfl (by (try simp only [List.map_toArray, List.map_cons, List.map_nil]); first | done | rfl | (simp only [List.length_drop, List.length_take]; rfl)) ?_; (with_reducible refine (be_.calls a0 a1 t101 t102 _ A3.out).mono ?_); rintro e w' ⟨rfl, ⟨nd, rfl⟩⟩; refine ⟨_, rfl, ?_⟩))
 go_ret2
 exact ⟨by first | rfl | (simp; done) | (simp [*]; done), by repeat (first | exact ra_.refl _ | apply ra_.step)⟩
def bd_.f (a0 : Int) : Option (Int) := if (wrap64 (a0 * 2)) ≥ 32 then (some (Go.bits .xor .i64 (wrap64 (a0 * 2)) 37)) else (some (wrap64 (a0 * 2)))
set_option maxHeartbeats 8000000 in
set_option maxRecDepth 100000 in
theorem bd_.calls (a0 : Int) (r : Int) (w : World) (h : bd_.f a0 = some r) :
  Calls Try.prog 41 #[.int .i64 a0] w fun e w' => e = .returned (.int .i64 r) ∧ ra_ w w' := by
 have H : (if (wrap64 (a0 * 2)) ≥ 32 then (some (Go.bits .xor .i64 (wrap64 (a0 * 2)) 37)) else (some (wrap64 (a0 * 2)))) = some r := h
 clear h
 by_cases c2 : (wrap64 (a0 * 2)) ≥ 32
 ·rw [if_pos c2] at H
  have c2b0 : decide (32 ≤ (wrap64 (a0 * 2))) = true := decide_eq_true c2
  clear c2
  obtain rfl := Option.some.inj H
  go_enter Try.func41, Try.ntmps41
  go_wp2
  go_ret
  exact ⟨by first | rfl | (simp; done) | (simp [*]; done), by repeat (first | exact ra_.refl _ | apply ra_.step)⟩
 ·rw [if_neg c2] at H
  have c2b0 : decide (32 ≤ (wrap64 (a0 * 2))) = false := decide_eq_false c2
  clear c2
  obtain rfl := Option.some.inj H
  go_enter Try.func41, Try.ntmps41
  go_wp2
  go_ret
  exact ⟨by first | rfl | (simp; done) | (simp [*]; done), by repeat (first | exact ra_.refl _ | apply ra_.step)⟩
def kd_.f (a0 : Int) : Option (Bool) := if a0 ≥ 0 then (some (decide (a0 < 32))) else (some false)
set_option maxHeartbeats 8000000 in
set_option maxRecDepth 100000 in
theorem kd_.calls (a0 : Int) (r : Bool) (w : World) (h : kd_.f a0 = some r) :
  Calls Try.prog 38 #[.int .i64 a0] w fun e w' => e = .returned (.bool r) ∧ ra_ w w' := by
 have H : (if a0 ≥ 0 then (some (decide (a0 < 32))) else (some false)) = some r := h
 clear h
 by_cases c2 : a0 ≥ 0
 ·rw [if_pos c2] at H
  have c2b0 : decide (0 ≤ a0) = true := decide_eq_true c2
  clear c2
  obtain rfl := Option.some.inj H
  go_enter Try.func38, Try.ntmps38
  go_wp2
  go_ret
  exact ⟨by first | rfl | (simp; done) | (simp [*]; done), by repeat (first | exact ra_.refl _ | apply ra_.step)⟩
 ·rw [if_neg c2] at H
  have c2b0 : decide (0 ≤ a0) = false := decide_eq_false c2
  clear c2
  obtain rfl := Option.some.inj H
  go_enter Try.func38, Try.ntmps38
  go_wp2
  go_ret
  exact ⟨by first | rfl | (simp; done) | (simp [*]; done), by repeat (first | exact ra_.refl _ | apply ra_.step)⟩
def mb_.l0 : Nat → Int → Int → Int → Option (Int)
 | 0, _, _, _ => none
 | k + 1, x0, x3, x5 => if x5 < 31 then (if x3 = x0 then (some x5) else ((bd_.f x3).bind fun t103 => (mb_.l0 k x0 t103 (wrap64 (x5 + 1))))) else (some 0)
def mb_.f (k : Nat) (a0 : Int) : Option (Int) := mb_.l0 k a0 1 0
theorem mb_.xc_ : ∀ k, (∀ y0 y1 y2, LeO (mb_.l0 k y0 y1 y2) (mb_.l0 (k + 1) y0 y1 y2))
 | 0 => fun _ _ _ r h => by simp [mb_.l0] at h
 | k + 1 => by
  have ih0 := mb_.xc_ k
  ·intro y0 y1 y2
   unfold mb_.l0
   repeat' first
   | (with_reducible exact ih0 _ _ _)
   | (with_reducible exact LeO.refl _)
   | (with_reducible exact LeO.none _)
   | (with_reducible refine LeO.ite ?_ ?_)
   | (with_reducible refine LeO.bind ?_ (fun _ => ?_))
   | exact ih0 _ _ _
   | exact LeO.none _
   | refine LeO.ite ?_ ?_
   | refine LeO.bind ?_ (fun _ => ?_)
theorem mb_.mono : ∀ a0 k, LeO (mb_.f k a0) (mb_.f (k + 1) a0) := by
 intro a0 k
 have ih0 := mb_.xc_ k
 unfold mb_.f
 repeat' first
   | (with_reducible exact ih0 _ _ _)
   | (with_reducible exact LeO.refl _)
   | (with_reducible exact LeO.none _)
   | (with_reducible refine LeO.ite ?_ ?_)
   | (with_reducible refine LeO.bind ?_ (fun _ => ?_))
   | exact ih0 _ _ _
   | exact LeO.none _
   | refine LeO.ite ?_ ?_
   | refine LeO.bind ?_ (fun _ => ?_)
set_option maxHeartbeats 8000000 in
set_option maxRecDepth 100000 in
theorem mb_.calls (k : Nat) (a0 : Int) (r : Int) (w : World) (h : mb_.f k a0 = some r) :
  Calls Try.prog 39 #[.int .i64 a0] w fun e w' => e = .returned (.int .i64 r) ∧ ra_ w w' := by
 have H : (mb_.l0 k a0 1 0) = some r := h
 clear h
 have H' := ba_.mk H
 clear H
 go_enter Try.func39, Try.ntmps39
 go_wp2
 go_loopg [3, 5] k (fun kq v3 v5 w' => ∃ (x3_1 : Int) (x5_1 : Int), v3 = .int .i64 x3_1 ∧ v5 = .int .i64 x5_1 ∧ ba_ (mb_.l0 kq a0 x3_1 x5_1 = some r) ∧ ba_ (kq ≤ k) ∧ ra_ w w')
 case atStart => exact ⟨(1), (0), (by first | rfl | (simp; done) | (simp [*]; done)), (by first | rfl | (simp; done) | (simp [*]; done)), H', ⟨Nat.le_refl _⟩, by repeat (first | exact ra_.refl _ | apply ra_.step)⟩
 case round =>
  clear H'
  obtain ⟨x3_1, x5_1, rfl, rfl, HA, HK1, ⟨m1, rfl⟩⟩ := hrel
  cases gk with
  | zero => exact absurd HA.out (by simp [mb_.l0])
  | succ k1 =>
   have H := HA.out
   clear HA
   simp only [mb_.l0] at H
   by_cases c2 : x5_1 < 31
   ·rw [if_pos c2] at H
    have c2b0 : decide (x5_1 < 31) = true := decide_eq_true c2
    clear c2
    by_cases c3 : x3_1 = a0
    ·rw [if_pos c3] at H
     have c3b0 : (x3_1 == a0) = true := beq_iff_eq.mpr c3
     have c3b1 : (x3_1 != a0) = false := bne_eq_false_iff_eq.mpr c3
     clear c3
     obtain rfl := Option.some.inj H
     go_wp2
     go_ret
     exact ⟨by first | rfl | (simp; done) | (simp [*]; done), by repeat (first | exact ra_.refl _ | apply ra_.step)⟩
    ·rw [if_neg c3] at H
     have c3b0 : (x3_1 == a0) = false := beq_eq_false_iff_ne.mpr c3
     have c3b1 : (x3_1 != a0) = true := bne_iff_ne.mpr c3
     replace H := Option.bind_eq_some_iff.mp H
     obtain ⟨t103, A40, H⟩ := H
     replace H : (mb_.l0 k1 a0 t103 (wrap64 (x5_1 + 1))) = some r := H
     have A4 := ba_.mk A40
     clear A40
     have H' := ba_.mk H
     clear H
     go_wp2_with (first | ((with_reducible refine ua_ (f := 41) rfl ?_); refine hc_ (some 13) rfl rfl Try.func41 (by kernel_rfl) rfl #[.int .i64 x3_1] rfl (by (try simp only [List.map_toArray, List.map_cons, List.map_nil]); first | done | rfl | (simp only [List.length_drop, List.length_take]; rfl)) ?_; (with_reducible refine (bd_.calls x3_1 t103 _ A4.out).mono ?_); rintro e w' ⟨rfl, ⟨nd, rfl⟩⟩; refine ⟨_, rfl, ?_⟩))
     go_roundg k1
     case measure => have := HK1.out; omega
     case rel => exact ⟨(t103), (wrap64 (x5_1 + 1)), (by first | rfl | (simp; done) | (simp [*]; done)), (by first | rfl | (simp; done) | (simp [*]; done)), H', ⟨by have := HK1.out; omega⟩, by repeat (first | exact ra_.refl _ | apply ra_.step)⟩
   ·rw [if_neg c2] at H
    have c2b0 : decide (x5_1 < 31) = false := decide_eq_false c2
    clear c2
    obtain rfl := Option.some.inj H
    go_wp2
    go_ret
    exact ⟨by first | rfl | (simp; done) | (simp [*]; done), by repeat (first | exact ra_.refl _ | apply ra_.step)⟩
def wh_.f (l0 : List Int) : Option (Bool) := (fi_.f l0 0).bind fun t104 => (if t104 = true then ((g_zs.f l0).bind fun t105 => (some t105)) else (some false))
set_option maxHeartbeats 8000000 in
set_option maxRecDepth 100000 in
theorem wh_.calls (A0 : Option Addr) (c0 : Nat) (l0 : List Int) (r : Bool) (w : World) (hr0 : Kd.C (Kd.int .i64) w A0 l0.length l0) (hc0 : l0.length ≤ c0) (h : wh_.f l0 = some r) :
  Calls Try.prog 32 #[.slice A0 l0.length c0] w fun e w' => e = .returned (.bool r) ∧ Below w.heap.size w w' := by
 have HR0 := ba_.mk hr0
 have HC0 := ba_.mk hc0
 clear hr0 hc0
 have HB := ba_.mk (Below.refl w.heap.size w)
 have H : ((fi_.f l0 0).bind fun t104 => (if t104 = true then ((g_zs.f l0).bind fun t105 => (some t105)) else (some false))) = some r := h
 clear h
 replace H := Option.bind_eq_some_iff.mp H
 obtain ⟨t104, A20, H⟩ := H
 replace H : (if t104 = true then ((g_zs.f l0).bind fun t105 => (some t105)) else (some false)) = some r := H
 have A2 := ba_.mk A20
 clear A20
 by_cases c3 : t104 = true
 ·subst c3
  have H1 : ((g_zs.f l0).bind fun t105 => (some t105)) = some r := by rw [if_pos rfl] at H; exact H
  clear H
  have H := H1
  clear H1
  replace H := Option.bind_eq_some_iff.mp H
  obtain ⟨t105, A40, H⟩ := H
  replace H : (some t105) = some r := H
  have A4 := ba_.mk A40
  clear A40
  obtain ⟨ts_, hts_, htb_⟩ := g_zs.some A4.out
  have TS := ba_.mk hts_
  clear hts_
  subst htb_
  obtain rfl := Option.some.inj H
  go_enter Try.func32, Try.ntmps32
  go_wp2_with (first | ((with_reducible refine ua_ (f := 45) rfl ?_); refine hc_ (some 4) rfl rfl Try.func45 (by kernel_rfl) rfl #[.slice A0 l0.length c0, .int .i64 0] rfl (by (try simp only [List.map_toArray, List.map_cons, List.map_nil]); first | done | rfl | (simp only [List.length_drop, List.length_take]; rfl)) ?_; (with_reducible refine (fi_.calls _ _ l0 0 true _ ?side1 ?side2 A2.out).mono ?_); (case side1 => repeat (first | exact HR0.out | (with_reducible refine Kd.yb_ ?_ _) | (with_reducible refine Kd.zb_ ?_ _) | (with_reducible refine Kd.jc_ ?_))); (case side2 => exact HC0.out); rintro e w5 ⟨rfl, hb⟩; refine ⟨_, rfl, ?_⟩; have n0_ := ba_.mk (gb_ (by repeat (first | (with_reducible first | exact HB.out | apply fa_ | apply ca_ | apply ga_) | exact HB.out)) hb); clear HB; have HB := n0_; clear n0_; (try clear hb); (try clear hb2); (try clear hk); (try clear hi)) | (go_at_call 50; (refine (yl_.calls _ _ l0 ts_ _ ?side1 ?side2 TS.out).mono ?_); (case side1 => repeat (first | exact (Kd.ie_ HR0.out HB.out) | (with_reducible refine Kd.yb_ ?_ _) | (with_reducible refine Kd.zb_ ?_ _) | (with_reducible refine Kd.jc_ ?_))); (case side2 => exact HC0.out); rintro e w6 ⟨v9, hv9, rfl, hb⟩; have qE : ∀ W : World, Sem.run Try.prog (binOp .eql 58 (.agg v9) (.agg #[.int .i64 0, .int .i64 0, .int .i64 0, .int .i64 0, .int .i64 0, .int .i64 0])) W = .ok (.bool (ts_ == List.replicate 6 0)) W := fun W => (by rw [hv9]; exact nd1_ ts_ (kj_ TS.out) W); clear hv9; have n0_ := ba_.mk (gb_ (by repeat (first | (with_reducible first | exact HB.out | apply fa_ | apply ca_ | apply ga_) | exact HB.out)) hb); clear HB; have HB := n0_; clear n0_; (try clear hb); (try clear hb2); (try clear hk); (try clear hi)))
  go_ret
  exact ⟨by first | rfl | (simp [bb_, cb_] <;> rfl) | (simp [*, bb_, cb_] <;> rfl), by repeat (first | (with_reducible first | exact HB.out | apply fa_ | apply ca_ | apply ga_) | exact HB.out)⟩
 ·replace c3 := Bool.eq_false_iff.mpr c3
  subst c3
  have H1 : (some false) = some r := by rw [if_neg (show ¬ (false = true) by decide)] at H; exact H
  clear H
  have H := H1
  clear H1
  obtain rfl := Option.some.inj H
  go_enter Try.func32, Try.ntmps32
  go_wp2_with (first | ((with_reducible refine ua_ (f := 45) rfl ?_); refine hc_ (some 4) rfl rfl Try.func45 (by kernel_rfl) rfl #[.slice A0 l0.length c0, .int .i64 0] rfl (by (try simp only [List.map_toArray, List.map_cons, List.map_nil]); first | done | rfl | (simp only [List.length_drop, List.length_take]; rfl)) ?_; (with_reducible refine (fi_.calls _ _ l0 0 false _ ?side1 ?side2 A2.out).mono ?_); (case side1 => repeat (first | exact HR0.out | (with_reducible refine Kd.yb_ ?_ _) | (with_reducible refine Kd.zb_ ?_ _) | (with_reducible refine Kd.jc_ ?_))); (case side2 => exact HC0.out); rintro e w7 ⟨rfl, hb⟩; refine ⟨_, rfl, ?_⟩; have n0_ := ba_.mk (gb_ (by repeat (first | (with_reducible first | exact HB.out | apply fa_ | apply ca_ | apply ga_) | exact HB.out)) hb); clear HB; have HB := n0_; clear n0_; (try clear hb); (try clear hb2); (try clear hk); (try clear hi)))
  go_ret
  exact ⟨by first | rfl | (simp [bb_, cb_] <;> rfl) | (simp [*, bb_, cb_] <;> rfl), by repeat (first | (with_reducible first | exact HB.out | apply fa_ | apply ca_ | apply ga_) | exact HB.out)⟩
end Go.Proofs.Ytpkhgapifnjbeaa.W
end
section
namespace Go.Proofs.Ytpkhgapifnjbeaa.W
open Go.RowKit Go.Proofs.Ytpkhgapifnjbeaa.G Go.Proofs.Ytpkhgapifnjbeaa.Rs Go.Proofs.YtpkhgapifnjbeaaW.PrintWords Go.Proofs.YtpkhgapifnjbeaaW.PrintLast Go.Proofs.YtpkhgapifnjbeaaW.PrintMore
attribute [local go_sem] dd_ fd_ rd_ sd_ uc_ vc_ ed_ gd_
set_option linter.unusedVariables false
set_option linter.unusedSimpArgs false
end Go.Proofs.Ytpkhgapifnjbeaa.W
end
section
namespace Go.Proofs.Ytpkhgapifnjbeaa.G
set_option linter.unusedVariables false
set_option linter.unusedSimpArgs false
open Go.RowKit Go.Proofs.YtpkhgapifnjbeaaW.PrintWords Go.Proofs.YtpkhgapifnjbeaaW.PrintLast Go.Proofs.YtpkhgapifnjbeaaW.PrintMore Go.Proofs.Ytpkhgapifnjbeaa.Rs
def decC (w : List Int) : List Int × Int × Int := (Go.Proofs.Ytpkhgapifnjbeaa.D.yc_.f 200 w).getD ([], 0, 0)
theorem gm_ (w : List Int) : decC w = decS w := by
 unfold decC
 rw [tv_ w 200 (by omega)]; rfl
def ge_.f (d : List Int) : Option (List Int × Int) := if d.length ≤ 300 then some (encS d) else none
def pi_.f (d : List Int) : Option (List Int × Int) := if d.length ≤ 300 then some (encS d) else none
def je_.f (w : List Int) : Option (List Int × Int × Int) := some (decC w)
def ko_.f (w : List Int) : Option (List Int × Int × Int) := if w.length ≤ 300 then some (decC w) else none
def ee_.f (l : List Int) : Option Bool := some (ve_ l)
theorem ge_.calls (A0 : Option Addr) (c0 : Nat) (l0 : List Int) (r1 : List Int) (r2 : Int) (w : World) (hr0 : Kd.C (Kd.int .i64) w A0 l0.length l0) (hc0 : l0.length ≤ c0) (h : ge_.f l0 = some (r1, r2)) :
  Calls Try.prog 27 #[.slice A0 l0.length c0] w fun e w' => ∃ v0_ : Value, e = .returned (.tuple #[v0_, .int .i64 r2]) ∧ Kd.R (Kd.int .i64) 3 w' w.heap.size (fun _ => True) v0_ r1 ∧ Below w.heap.size w w' := by
 unfold ge_.f at h
 by_cases hl : l0.length ≤ 300
 ·rw [if_pos hl, ← bb1_ l0 hl 1100 (by omega)] at h
  exact Go.Proofs.Ytpkhgapifnjbeaa.E.zc_.calls 1100 A0 c0 l0 r1 r2 w hr0 hc0 h
 ·rw [if_neg hl] at h; cases h
theorem pi_.calls (A0 : Option Addr) (c0 : Nat) (l0 : List Int) (r1 : List Int) (r2 : Int) (w : World) (hr0 : Kd.C (Kd.int .i64) w A0 l0.length l0) (hc0 : l0.length ≤ c0) (h : pi_.f l0 = some (r1, r2)) :
  Calls Try.prog 28 #[.slice A0 l0.length c0] w fun e w' => ∃ v0_ : Value, e = .returned (.tuple #[v0_, .int .i64 r2]) ∧ Kd.R (Kd.int .i64) 3 w' w.heap.size (fun _ => True) v0_ r1 ∧ Below w.heap.size w w' := by
 unfold pi_.f at h
 by_cases hl : l0.length ≤ 300
 ·rw [if_pos hl, ← px_ l0 hl 100 (by omega)] at h
  exact Go.Proofs.Ytpkhgapifnjbeaa.V.ib_.calls 100 A0 c0 l0 r1 r2 w hr0 hc0 h
 ·rw [if_neg hl] at h; cases h
theorem je_.calls (A0 : Option Addr) (c0 : Nat) (l0 : List Int) (r1 : List Int) (r2 : Int) (r3 : Int) (w : World) (hr0 : Kd.C (Kd.int .i64) w A0 l0.length l0) (hc0 : l0.length ≤ c0) (h : je_.f l0 = some (r1, r2, r3)) :
  Calls Try.prog 34 #[.slice A0 l0.length c0] w fun e w' => ∃ v0_ : Value, e = .returned (.tuple #[v0_, .int .i64 r2, .int .i64 r3]) ∧ Kd.R (Kd.int .i64) 3 w' w.heap.size (fun _ => True) v0_ r1 ∧ Below w.heap.size w w' := by
 unfold je_.f at h
 rw [gm_, ← tv_ l0 100 (by omega)] at h
 exact Go.Proofs.Ytpkhgapifnjbeaa.D.yc_.calls 100 A0 c0 l0 r1 r2 r3 w hr0 hc0 h
theorem ko_.calls (A0 : Option Addr) (c0 : Nat) (l0 : List Int) (r1 : List Int) (r2 : Int) (r3 : Int) (w : World) (hr0 : Kd.C (Kd.int .i64) w A0 l0.length l0) (hc0 : l0.length ≤ c0) (h : ko_.f l0 = some (r1, r2, r3)) :
  Calls Try.prog 35 #[.slice A0 l0.length c0] w fun e w' => ∃ v0_ : Value, e = .returned (.tuple #[v0_, .int .i64 r2, .int .i64 r3]) ∧ Kd.R (Kd.int .i64) 3 w' w.heap.size (fun _ => True) v0_ r1 ∧ Below w.heap.size w w' := by
 unfold ko_.f at h
 by_cases hl : l0.length ≤ 300
 ·rw [if_pos hl, gm_, ← ox_ l0 hl 100 (by omega)] at h
  exact Go.Proofs.Ytpkhgapifnjbeaa.V.ke_.calls 100 A0 c0 l0 r1 r2 r3 w hr0 hc0 h
 ·rw [if_neg hl] at h; cases h
theorem cc1_ (l : List Int) : (synI l == List.replicate 6 0) = (List.range 6).all fun j => decide (psum l (j + 1) l.length = 0) := by
 rw [Bool.eq_iff_iff, beq_iff_eq, List.all_eq_true]
 constructor
 ·intro h j hj
  have hj6 := List.mem_range.1 hj
  have e := ja1_ l j hj6
  rw [h, List.getD_eq_getElem?_getD, List.getElem?_replicate, if_pos hj6] at e
  exact decide_eq_true (ui_.1 e.symm)
 ·intro h
  apply List.ext_getElem
  ·simp [synI]
  ·intro j h1 h2
   have hj6 : j < 6 := by simpa using h2
   have e := ja1_ l j hj6
   have := of_decide_eq_true (h j (List.mem_range.2 hj6))
   rw [this, List.getD_eq_getElem?_getD, List.getElem?_eq_getElem h1] at e
   rw [List.getElem_replicate]
   exact e
theorem sw_ (l : List Int) : Go.Proofs.Ytpkhgapifnjbeaa.W.wh_.f l = some (ve_ l) := by
 unfold Go.Proofs.Ytpkhgapifnjbeaa.W.wh_.f ve_
 have hg : fi_.f l 0 = some (isWord l 0) := rfl
 rw [hg]
 simp only [Option.bind_some]
 by_cases hw : isWord l 0 = true
 ·rw [if_pos hw, hw, Bool.true_and]
  have := (me_ hw).2.1
  unfold g_zs.f yl_.f
  rw [if_pos this]
  simp only [Option.map_some, Option.bind_some]
  rw [cc1_]
 ·rw [if_neg hw, Bool.eq_false_iff.2 hw, Bool.false_and]
theorem ee_.calls (A0 : Option Addr) (c0 : Nat) (l0 : List Int) (r : Bool) (w : World) (hr0 : Kd.C (Kd.int .i64) w A0 l0.length l0) (hc0 : l0.length ≤ c0) (h : ee_.f l0 = some r) :
  Calls Try.prog 32 #[.slice A0 l0.length c0] w fun e w' => e = .returned (.bool r) ∧ Below w.heap.size w w' :=
 Go.Proofs.Ytpkhgapifnjbeaa.W.wh_.calls A0 c0 l0 r w hr0 hc0 ((sw_ l0).trans h)
end Go.Proofs.Ytpkhgapifnjbeaa.G
end
section
namespace Go.Proofs.Ytpkhgapifnjbeaa.G
set_option linter.unusedVariables false
set_option linter.unusedSimpArgs false
open Go.RowKit Go.Proofs.Ytpkhgapifnjbeaa.Rs
theorem rm_ {c : List Int} (h : ve_ c = true) : ∀ m, m ≤ c.length → eraN c m = [] := by
 intro m
 induction m with
 | zero => intro _; rfl
 | succ m ih =>
  intro hm
  simp only [eraN]
  have := (xd_ _).1 (fh_ h m (by omega))
  rw [ih (by omega), if_neg (by omega)]; rfl
theorem sl_ (c : List Int) : ∀ m, errN c c m = 0 := by
 intro m
 induction m with
 | zero => rfl
 | succ m ih => simp only [errN]; rw [ih, if_neg (fun h => h.2 rfl)]
theorem pz_ {c : List Int} (h : ve_ c = true) : Near c c := ⟨h, rfl, by rw [sl_, rm_ h _ (Nat.le_refl _)]; simp⟩
theorem iy_ {c : List Int} (h : ve_ c = true) : isWord c (-1) = true := by
 obtain ⟨h1, h2, h3⟩ := me_ (ye_ h).1
 exact om_ ⟨h1, h2⟩ fun x hx => by have := h3 x hx; omega
theorem wj_ {d : List Int} (h : oe_ d = true) : decC (encC d) = (d, 0, 0) := by
 rw [gm_, ak_ (iy_ (xe_ h)) (pz_ (xe_ h)), sl_, cf_ h, Nat.add_sub_cancel, qm_ h]; rfl
end Go.Proofs.Ytpkhgapifnjbeaa.G
end
section
namespace Go.Proofs.Ytpkhgapifnjbeaa.G
set_option linter.unusedVariables false
set_option linter.unusedSimpArgs false
open Go.RowKit Go.Proofs.Ytpkhgapifnjbeaa.Rs
theorem rw_ {c c' : List Int} (h : ve_ c = true) (h' : ve_ c' = true) (hl : c'.length = c.length) (P : Nat → Bool) (hP : ∀ i, i < c.length → P i = false → c'.getD i 0 = c.getD i 0) (h6 : (posN P c.length).length ≤ 6) : c = c' := by
 have hD : gf_ c.length (posN P c.length) := gw_ h6
 have hag : ∀ i, i < c.length → (i : Int) ∉ posN P c.length → c'.getD i 0 = c.getD i 0 := by
  intro i hi hm
  refine hP i hi (Bool.eq_false_iff.2 fun hp => hm ((lg_ _).2 ⟨i, hi, hp, rfl⟩))
 have hl2 := (eq_ (ye_ h).1).2.2
 exact hh_.uniq hl2 hD (wm_ h hD rfl (fun i hi _ => rfl)) (wm_ h' hD hl hag)
theorem vG_el {x : Int} (h : isEl x = true) : vG x = toG x := by unfold vG; rw [if_pos h]
theorem va1_ {p q r : List Int} (hp : ve_ p = true) (hq : ve_ q = true) (hl : q.length = p.length) (hr : r.length = p.length) (m : GF) (h : ∀ i, i < p.length → r.getD i 0 = ofG (toG (p.getD i 0) * m + toG (q.getD i 0))) : ve_ r = true := by
 have hw := me_ (ye_ hp).1
 refine gu_ (om_ ⟨by omega, by omega⟩ fun x hx => ?_) fun j hj => ?_
 ·obtain ⟨i, hi, e⟩ := aj_ hx
  rw [← e, h i (by omega)]
  have := br_ (toG (p.getD i 0) * m + toG (q.getD i 0))
  omega
 ·have e1 := (ye_ hp).2 j hj
  have e2 := (ye_ hq).2 j hj
  have e : psum r (j + 1) r.length = m * psum p (j + 1) p.length + psum q (j + 1) q.length := by
   unfold psum
   rw [hr, hl, ← ci_, ← uj_]
   refine vd_ fun i hi => ?_
   rw [h i hi, uc1_, vG_el (fh_ hp i hi), vG_el (fh_ hq i (by omega)), GF.add_mul, GF.mul_comm (toG (p.getD i 0)) m, GF.mul_assoc]
  rw [e, e1, e2, GF.mul_zero, GF.add_zero]
theorem vo_ {x : List Int} {p : Nat} {v : Int} (hp : p < x.length) : (x.set p v).getD p 0 = v := by rw [ig_, if_pos ⟨rfl, hp⟩]
theorem fn_ {x : List Int} {p m : Nat} {v : Int} (h : p ≠ m) : (x.set p v).getD m 0 = x.getD m 0 := by rw [ig_, if_neg (fun q => h q.1)]
theorem fs_ {x c : List Int} {p : Nat} {v : Int} (hp : p < x.length) (h0 : x.getD p 0 = c.getD p 0) (hv : 0 ≤ v) (hn : v ≠ c.getD p 0) : ∀ m, errN (x.set p v) c m = errN x c m + if p < m then 1 else 0 := by
 intro m
 induction m with
 | zero => rfl
 | succ m ih =>
  simp only [errN]
  rw [ih]
  by_cases e : p = m
  ·subst e
   rw [vo_ hp, if_pos (show 0 ≤ v ∧ v ≠ c.getD p 0 from ⟨hv, hn⟩), if_neg (show ¬ (0 ≤ x.getD p 0 ∧ x.getD p 0 ≠ c.getD p 0) from fun q => q.2 h0), if_neg (Nat.lt_irrefl p), if_pos (Nat.lt_succ_self p)]
  ·rw [fn_ e]
   by_cases h : p < m
   ·rw [if_pos h, if_pos (show p < m + 1 by omega)]; omega
   ·rw [if_neg h, if_neg (show ¬ p < m + 1 by omega)]; omega
theorem sj_ {x : List Int} {p : Nat} {v : Int} (hp : p < x.length) (h0 : 0 ≤ x.getD p 0) (hv : 0 ≤ v) : ∀ m, eraN (x.set p v) m = eraN x m := by
 intro m
 induction m with
 | zero => rfl
 | succ m ih =>
  simp only [eraN]
  rw [ih]
  by_cases e : p = m
  ·subst e
   rw [vo_ hp, if_neg (show ¬ v < 0 by omega), if_neg (show ¬ x.getD p 0 < 0 by omega)]
  ·rw [fn_ e]
theorem um_ {x c : List Int} {p : Nat} {v : Int} (hp : p < x.length) (h0 : x.getD p 0 = c.getD p 0) (hv : v < 0) : ∀ m, errN (x.set p v) c m = errN x c m := by
 intro m
 induction m with
 | zero => rfl
 | succ m ih =>
  simp only [errN]
  rw [ih]
  by_cases e : p = m
  ·subst e
   rw [vo_ hp, if_neg (show ¬ (0 ≤ v ∧ v ≠ c.getD p 0) by omega), if_neg (show ¬ (0 ≤ x.getD p 0 ∧ x.getD p 0 ≠ c.getD p 0) from fun q => q.2 h0)]
  ·rw [fn_ e]
theorem sm_ {x : List Int} {p : Nat} {v : Int} (hp : p < x.length) (h0 : 0 ≤ x.getD p 0) (hv : v < 0) : ∀ m, (eraN (x.set p v) m).length = (eraN x m).length + if p < m then 1 else 0 := by
 intro m
 induction m with
 | zero => rfl
 | succ m ih =>
  simp only [eraN, List.length_append]
  rw [ih]
  by_cases e : p = m
  ·subst e
   rw [vo_ hp, if_pos hv, if_neg (show ¬ x.getD p 0 < 0 by omega), if_neg (Nat.lt_irrefl p), if_pos (Nat.lt_succ_self p)]; rfl
  ·rw [fn_ e]
   by_cases h : p < m
   ·rw [if_pos h, if_pos (show p < m + 1 by omega)]; omega
   ·rw [if_neg h, if_neg (show ¬ p < m + 1 by omega)]; omega
end Go.Proofs.Ytpkhgapifnjbeaa.G
end
