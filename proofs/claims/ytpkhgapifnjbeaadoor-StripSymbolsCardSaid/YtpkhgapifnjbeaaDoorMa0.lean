/- Put together by pack2.py. -/
import Derived.Test.YtpkhgapifnjbeaaDoorProg
import Derived.Below
import Derived.Deep.Draws
import Derived.Deep.AppendLies
import Derived.Maps.AppendAt
import Derived.OwnWalk
import Derived.Laws.BytesArg
import Derived.Laws.MakeOwn
import Derived.Laws.OwnMore
import Derived.Deep.OwnRows
import Derived.Tactics
import Derived.Lib.ConvBytes
import Derived.Laws.Slices
import Derived.WalkKit
import Derived.KernelRfl
import Derived.RowKit3
import Derived.Deep.LoopGhost
import Derived.Deep.QuietTactic
import Derived.BigQuiet
import Derived.WideLaws
import Derived.Deep.DeepCutAuto
import Derived.Deep.CutBlock
import Derived.Deep.RegionHeld3
import Derived.Laws.Rows
import Derived.Lib.AppendStr
import Derived.ArgAppend
import Derived.Laws.IdiomCopy
import Derived.OrdersHeld
import Derived.Laws.BitsLemmas
import Derived.RowKit
import Derived.Test.YtpkhgapifnjbeaaDoorMB3
section
namespace Go.Proofs.YtpkhgapifnjbeaaDoor.T
open Go.RowKit Go.Proofs.YtpkhgapifnjbeaaDoor.G Go.Proofs.YtpkhgapifnjbeaaDoor.Rs Go.Proofs.YtpkhgapifnjbeaaDoorW.PrintWords Go.Proofs.YtpkhgapifnjbeaaDoorW.PrintLast Go.Proofs.YtpkhgapifnjbeaaDoorW.PrintMore
attribute [local go_sem] qc_ sc_ cd_ dd_ jc_ kc_ rc_ tc_
set_option linter.unusedVariables false
set_option linter.unusedSimpArgs false
def errW : Option Int → Value
 | none => .nilIface
 | some c => .iface 0 (.int .i64 c)
theorem xa_ : errW none = .nilIface := rfl
theorem ya_ (c : Int) : errW (some c) = .iface 0 (.int .i64 c) := rfl
theorem ii_ : (Tryd.prog.info? 3).map (fun i => (i.zero, i.size, i.bytes)) = some (some (.int .i64 0), 1, 8) := by kernel_rfl
structure S26 where
 f0 : Int
 f1 : Int
 f2 : Int
 f3 : Int
def ah_ (xs : List (List Int)) (i : Int) : (List Int) := xs.getD i.toNat ([] : List Int)
theorem at_L2 {w : World} {A : Option Addr} {n : Nat} {xs : List (List Int)} (h : Kd.C (Kd.slice 3 (Kd.int .i64)) w A n xs) (i : Int) (h0 : 0 ≤ i) (h1 : i < n) : ∃ ad A0 c0, A = some ad ∧ w.cell? (ad.add i.toNat) = some (.slice A0 (ah_ xs i).length c0) ∧ (ah_ xs i).length ≤ c0 ∧ (Kd.int .i64).C w A0 (ah_ xs i).length (ah_ xs i) := by
 obtain ⟨ad, c, e, _, hK, hc0⟩ := Kd.eh_ h ([] : List Int) i h0 h1
 have hc : ∀ j u, c[j]? = some u → w.cell? (ad.add (i.toNat * 1 + j)) = some u := hc0
 obtain ⟨A0, c0, rfl, l0, g0⟩ := hK
 exact ⟨ad, A0, c0, e, by have hq := hc 0 _ rfl; rwa [Nat.mul_one, Nat.add_zero] at hq, l0, g0⟩
end Go.Proofs.YtpkhgapifnjbeaaDoor.T
end
section
namespace Go.Proofs.YtpkhgapifnjbeaaDoor.T
open Go.RowKit Go.Proofs.YtpkhgapifnjbeaaDoor.G Go.Proofs.YtpkhgapifnjbeaaDoor.Rs Go.Proofs.YtpkhgapifnjbeaaDoorW.PrintWords Go.Proofs.YtpkhgapifnjbeaaDoorW.PrintLast Go.Proofs.YtpkhgapifnjbeaaDoorW.PrintMore
attribute [local go_sem] qc_ sc_ cd_ dd_ jc_ kc_ rc_ tc_
set_option linter.unusedVariables false
set_option linter.unusedSimpArgs false
def ma_ (w0 W : World) (g : Nat) (f0 : List Int) (f1 : Int) : Prop := ∃ A0 c0, W.heap[g]? = some (.cells #[.slice A0 f0.length c0, .int .i64 f1] 36 (0, 0)) ∧ w0.heap.size ≤ g ∧ Kd.C (Kd.int .i64) w0 A0 f0.length f0
theorem ma_.grown {w0 W : World} {g : Nat} {f0 : List Int} {f1 : Int} {W1 : World} {row : Option Nat} (h : ma_ w0 W g f0 f1) (hw : W.grownBy W1 row) (hne : some g ≠ row) : ma_ w0 W1 g f0 f1 := by
 obtain ⟨A0, c0, hb, hg, hr0⟩ := h
 exact ⟨A0, c0, co_ hb hw hne, hg, hr0⟩
theorem ma_.kept {w0 W : World} {g : Nat} {f0 : List Int} {f1 : Int} {W1 : World} {S : Nat → Prop} (h : ma_ w0 W g f0 f1) (hk : Kept W W1 S) (hne : ¬ S g) : ma_ w0 W1 g f0 f1 := by
 obtain ⟨A0, c0, hb, hg, hr0⟩ := h
 exact ⟨A0, c0, up_ hb hk hne, hg, hr0⟩
theorem ma_.below {w0 W : World} {g : Nat} {f0 : List Int} {f1 : Int} {W1 : World} (h : ma_ w0 W g f0 f1) (hw : Below W.heap.size W W1) : ma_ w0 W1 g f0 f1 := h.grown (lg_ hw none) (by simp)
theorem ma_.alloc {w0 W : World} {g : Nat} {f0 : List Int} {f1 : Int} (h : ma_ w0 W g f0 f1) (o : Obj) : ma_ w0 (W.alloc o) g f0 f1 := h.below (da_ (Below.refl _ _) o)
theorem ma_.drewN {w0 W : World} {g : Nat} {f0 : List Int} {f1 : Int} (h : ma_ w0 W g f0 f1) (m : Nat) : ma_ w0 (W.drewN m) g f0 f1 := h
theorem ma_.drew {w0 W : World} {g : Nat} {f0 : List Int} {f1 : Int} (h : ma_ w0 W g f0 f1) : ma_ w0 W.drew g f0 f1 := h
theorem ma_.at_ {w0 W : World} {g : Nat} {f0 : List Int} {f1 : Int} {w' : World} {m : Nat} (hq : W.drewN m = w') (h : ma_ w0 W g f0 f1) : ma_ w0 w' g f0 f1 := by subst hq; exact ma_.drewN h m
theorem ma_.apart {w0 W : World} {g : Nat} {f0 : List Int} {f1 : Int} {α : Type} {d : Kd α} {e : Nat} {base : Nat} {ok : Nat → Prop} {v : Value} {xs : List α} (h : ma_ w0 W g f0 f1) (ho : d.R e W base ok v xs) (ht : ∀ q, q ∈ e :: d.E → q ≠ 36) : d.R e W base (fun k => ok k ∧ k ≠ g) v xs := by
 obtain ⟨A0, c0, hb, hg, hr0⟩ := h
 exact Kd.mg_ ho hb ht
theorem ma_.nj_ {w0 W : World} {g : Nat} {f0 : List Int} {f1 : Int} {α : Type} {d : Kd α} {e : Nat} {base : Nat} {ok : Nat → Prop} {v : Value} {xs : List α} (h : ma_ w0 W g f0 f1) (ho : d.R e W base ok v xs) (ht : e ≠ 36) : some g ≠ v.ownBlock := by
 obtain ⟨A0, c0, hb, hg, hr0⟩ := h
 exact Kd.R_ne ho hb ht
theorem ma_.lt {w0 W : World} {g : Nat} {f0 : List Int} {f1 : Int} (h : ma_ w0 W g f0 f1) : g < W.heap.size := by
 obtain ⟨A0, c0, hb, hg, hr0⟩ := h
 exact kg_ hb
theorem ma_.ge {w0 W : World} {g : Nat} {f0 : List Int} {f1 : Int} (h : ma_ w0 W g f0 f1) : w0.heap.size ≤ g := by
 obtain ⟨A0, c0, hb, hg, hr0⟩ := h
 exact hg
theorem ma_.far {w0 W : World} {g : Nat} {f0 : List Int} {f1 : Int} {p : Addr} (h : ma_ w0 W g f0 f1) (hne : g ≠ p.block) (u : Value) : ma_ w0 (W.setCell p u) g f0 f1 := by
 obtain ⟨A0, c0, hb, hg, hr0⟩ := h
 exact ⟨A0, c0, sf_ hb hne u, hg, hr0⟩
theorem lk_ {W : World} {g : Nat} {A0 : Option Addr} {c0 : Nat} {f0 : List Int} {f1 : Int} (h : W.heap[g]? = some (.cells #[.slice A0 f0.length c0, .int .i64 f1] 36 (0, 0))) : W.cell? ⟨g, 0, none⟩ = some (.slice A0 f0.length c0) := (ga_ h 0).trans rfl
theorem mk_ {W : World} {g : Nat} {A0 : Option Addr} {c0 : Nat} {f0 : List Int} {f1 : Int} (h : W.heap[g]? = some (.cells #[.slice A0 f0.length c0, .int .i64 f1] 36 (0, 0))) : W.cell? ⟨g, 1, none⟩ = some (.int .i64 f1) := (ga_ h 1).trans rfl
theorem ma_.od_ {w0 W : World} {g : Nat} {f0 : List Int} {f1 : Int} (h : ma_ w0 W g f0 f1) (x : Int) : ma_ w0 (W.setCell ⟨g, 1, none⟩ (.int .i64 x)) g f0 x := by
 obtain ⟨A0, c0, hb, hg, hr0⟩ := h
 exact ⟨A0, c0, by simpa using ol_ hb 1 (.int .i64 x), hg, hr0⟩
def fd_.f (l0 : List Int) : Option (List Int × Int) := if (l0.length : Int) > 600 then (if 600 ≤ (l0.length : Int) then (some (l0.take 600, 0)) else (none)) else (some (l0, 0))
set_option maxHeartbeats 8000000 in
set_option maxRecDepth 100000 in
theorem fd_.calls (A0 : Option Addr) (c0 : Nat) (l0 : List Int) (r1 : List Int) (r2 : Int) (w0 w : World) (hB : Below w0.heap.size w0 w) (hr0 : Kd.C (Kd.int .i64) w0 A0 l0.length l0) (hc0 : l0.length ≤ c0) (h : fd_.f l0 = some (r1, r2)) :
  Calls Tryd.prog 4 #[.slice A0 l0.length c0] w fun e w' => ∃ g_ : Nat, e = .returned (.pointer (some ⟨g_, 0, none⟩)) ∧ ma_ w0 w' g_ r1 r2 ∧ Below w0.heap.size w0 w' ∧ Below w.heap.size w w' := by
 have hu36 := Tryd.underlying36
 have HR0 := ba_.mk hr0
 have HC0 := ba_.mk hc0
 clear hr0 hc0
 have HBW := ba_.mk (Below.refl w.heap.size w)
 have HW0 := ba_.mk hB.size
 have HB := ba_.mk hB
 clear hB
 have H : (if (l0.length : Int) > 600 then (if 600 ≤ (l0.length : Int) then (some (l0.take 600, 0)) else (none)) else (some (l0, 0))) = some (r1, r2) := h
 clear h
 by_cases c2 : (l0.length : Int) > 600
 ·rw [if_pos c2] at H
  have c2b0 : decide (600 < (l0.length : Int)) = true := decide_eq_true c2
  have c2b1 : decide (600 < l0.length) = true := decide_eq_true (by omega)
  clear c2
  by_cases c3 : 600 ≤ (l0.length : Int)
  ·rw [if_pos c3] at H
   have c3b0 := eq_true c3
   have c3b1 : decide (600 ≤ (l0.length : Int)) = true := decide_eq_true c3
   clear c3
   simp only [Option.some.injEq, Prod.mk.injEq] at H
   obtain ⟨rfl, rfl⟩ := H
   obtain ⟨i04, hi04, _, hsz4, _⟩ := info_parts ii_
   obtain ⟨hcut4, hA4, hC4⟩ := ck_ (P := Tryd.prog) (Value.int .i64) 0 22 3 .i64 Tryd.underlying22 hi04 hsz4 A0 c0 l0 600 (by omega) (of_decide_eq_true (by first | (with_reducible assumption) | assumption)) HC0.out
   have HR101 := ba_.mk (Kd.ej_ (h1 := fun _ => rfl) (hA4 _ (Kd.kh_ HR0.out)))
   have HC101 := ba_.mk hC4
   clear hA4 hC4 hi04 hsz4
   go_enter Tryd.func4, Tryd.ntmps4
   go_wp2_with (first | ((with_reducible refine hc_ (N := 10) rfl ?_); refine ed_ ?hg (N := 10) ?hd (cs := #[.slice A0 (l0.take 600).length c0, .int .i64 0]) (t := 36) ?hr ?_; (case hd => rfl); (case hg => rfl); (case hr => first | (go_simp; done) | (go_simp; rfl)); intro gb102 hg w5 hbox hb; have n0_ := ba_.mk (pa_ HBW.out hb); have n1_ := ba_.mk (pa_ (by repeat (first | (with_reducible first | exact HB.out | apply da_ | apply aa_ | apply ca_) | exact HB.out)) hb); have n2_ := ba_.mk (hbox); have n3_ := ba_.mk ((by rw [hg]; exact (wa_ (by repeat (first | (with_reducible first | exact HBW.out | apply da_ | apply aa_ | apply ca_) | exact HBW.out))) : w.heap.size ≤ gb102)); have n4_ := ba_.mk ((Nat.le_trans HW0.out (by rw [hg]; exact (wa_ (by repeat (first | (with_reducible first | exact HBW.out | apply da_ | apply aa_ | apply ca_) | exact HBW.out))) : w.heap.size ≤ gb102) : w0.heap.size ≤ gb102)); clear HBW; clear HB; have HBW := n0_; have HB := n1_; have BK102 := n2_; have GW102 := n3_; have GE102 := n4_; clear n0_ n1_ n2_ n3_ n4_; clear hb hbox hg))
   go_ret
   exact ⟨_, rfl, (show ma_ w0 _ gb102 (l0.take 600) 0 from ⟨_, _, by (with_reducible repeat (first | refine ra_ ?_ _ | refine ab_ ?_ | refine qa_ ?_ _)); exact BK102.out, GE102.out, HR101.out⟩), by repeat (first | (with_reducible first | exact HB.out | apply da_ | apply aa_ | apply ca_ | refine ia_ ?_ GE102.out) | exact HB.out), by repeat (first | (with_reducible first | exact HBW.out | apply da_ | apply aa_ | apply ca_ | refine ia_ ?_ GW102.out) | exact HBW.out)⟩
  ·rw [if_neg c3] at H
   exact absurd H (by simp)
 ·rw [if_neg c2] at H
  have c2b0 : decide (600 < (l0.length : Int)) = false := decide_eq_false c2
  have c2b1 : decide (600 < l0.length) = false := decide_eq_false (by omega)
  clear c2
  simp only [Option.some.injEq, Prod.mk.injEq] at H
  obtain ⟨rfl, rfl⟩ := H
  go_enter Tryd.func4, Tryd.ntmps4
  go_wp2_with (first | ((with_reducible refine hc_ (N := 10) rfl ?_); refine ed_ ?hg (N := 10) ?hd (cs := #[.slice A0 l0.length c0, .int .i64 0]) (t := 36) ?hr ?_; (case hd => rfl); (case hg => rfl); (case hr => first | (go_simp; done) | (go_simp; rfl)); intro gb103 hg w6 hbox hb; have n0_ := ba_.mk (pa_ HBW.out hb); have n1_ := ba_.mk (pa_ (by repeat (first | (with_reducible first | exact HB.out | apply da_ | apply aa_ | apply ca_) | exact HB.out)) hb); have n2_ := ba_.mk (hbox); have n3_ := ba_.mk ((by rw [hg]; exact (wa_ (by repeat (first | (with_reducible first | exact HBW.out | apply da_ | apply aa_ | apply ca_) | exact HBW.out))) : w.heap.size ≤ gb103)); have n4_ := ba_.mk ((Nat.le_trans HW0.out (by rw [hg]; exact (wa_ (by repeat (first | (with_reducible first | exact HBW.out | apply da_ | apply aa_ | apply ca_) | exact HBW.out))) : w.heap.size ≤ gb103) : w0.heap.size ≤ gb103)); clear HBW; clear HB; have HBW := n0_; have HB := n1_; have BK103 := n2_; have GW103 := n3_; have GE103 := n4_; clear n0_ n1_ n2_ n3_ n4_; clear hb hbox hg))
  go_ret
  exact ⟨_, rfl, (show ma_ w0 _ gb103 l0 0 from ⟨_, _, by (with_reducible repeat (first | refine ra_ ?_ _ | refine ab_ ?_ | refine qa_ ?_ _)); exact BK103.out, GE103.out, HR0.out⟩), by repeat (first | (with_reducible first | exact HB.out | apply da_ | apply aa_ | apply ca_ | refine ia_ ?_ GE103.out) | exact HB.out), by repeat (first | (with_reducible first | exact HBW.out | apply da_ | apply aa_ | apply ca_ | refine ia_ ?_ GW103.out) | exact HBW.out)⟩
def yc_.f (a0 : Int) (a1 : Int) : Option (Int) := if a1 < 1 then (some 0) else (if a1 = 0 then (none) else (if (Int.tmod a0 a1) < 0 then (some (wrap64 ((Int.tmod a0 a1) + a1))) else (some (Int.tmod a0 a1))))
set_option maxHeartbeats 8000000 in
set_option maxRecDepth 100000 in
theorem yc_.calls (a0 : Int) (a1 : Int) (r : Int) (w : World) (h : yc_.f a0 a1 = some r) :
  Calls Tryd.prog 34 #[.int .i64 a0, .int .i64 a1] w fun e w' => e = .returned (.int .i64 r) ∧ gb_ w w' := by
 have H : (if a1 < 1 then (some 0) else (if a1 = 0 then (none) else (if (Int.tmod a0 a1) < 0 then (some (wrap64 ((Int.tmod a0 a1) + a1))) else (some (Int.tmod a0 a1))))) = some r := h
 clear h
 by_cases c3 : a1 < 1
 ·rw [if_pos c3] at H
  have c3b0 : decide (a1 < 1) = true := decide_eq_true c3
  clear c3
  obtain rfl := Option.some.inj H
  go_enter Tryd.func34, Tryd.ntmps34
  go_wp2
  go_ret
  exact ⟨by first | rfl | (simp; done) | (simp [*]; done), by repeat (first | exact gb_.refl _ | apply gb_.step)⟩
 ·rw [if_neg c3] at H
  have c3b0 : decide (a1 < 1) = false := decide_eq_false c3
  clear c3
  by_cases c4 : a1 = 0
  ·rw [if_pos c4] at H
   exact absurd H (by simp)
  ·rw [if_neg c4] at H
   have c4b0 : (a1 == 0) = false := beq_eq_false_iff_ne.mpr c4
   have c4b1 : (a1 != 0) = true := bne_iff_ne.mpr c4
   by_cases c5 : (Int.tmod a0 a1) < 0
   ·rw [if_pos c5] at H
    have c5b0 : decide ((Int.tmod a0 a1) < 0) = true := decide_eq_true c5
    clear c5
    obtain rfl := Option.some.inj H
    go_enter Tryd.func34, Tryd.ntmps34
    go_wp2
    go_ret
    exact ⟨by first | rfl | (simp; done) | (simp [*]; done), by repeat (first | exact gb_.refl _ | apply gb_.step)⟩
   ·rw [if_neg c5] at H
    have c5b0 : decide ((Int.tmod a0 a1) < 0) = false := decide_eq_false c5
    clear c5
    obtain rfl := Option.some.inj H
    go_enter Tryd.func34, Tryd.ntmps34
    go_wp2
    go_ret
    exact ⟨by first | rfl | (simp; done) | (simp [*]; done), by repeat (first | exact gb_.refl _ | apply gb_.step)⟩
def pc_.f (s0_0 : List Int) (s0_1 : Int) : Option (Int × Int) := if s0_1 ≥ (s0_0.length : Int) then (some (0, s0_1)) else (if 0 ≤ (wrap64 ((wrap64 (s0_1 + 1)) - 1)) then (if (wrap64 ((wrap64 (s0_1 + 1)) - 1)) < (s0_0.length : Int) then (some (rd s0_0 (wrap64 ((wrap64 (s0_1 + 1)) - 1)), wrap64 (s0_1 + 1))) else (none)) else (none))
set_option maxHeartbeats 8000000 in
set_option maxRecDepth 100000 in
theorem pc_.calls (g : Nat) (s0_0 : List Int) (s0_1 : Int) (r1 : Int) (r2 : Int) (w0 w : World) (hI : ma_ w0 w g s0_0 s0_1) (hB : Below w0.heap.size w0 w) (h : pc_.f s0_0 s0_1 = some (r1, r2)) :
  Calls Tryd.prog 35 #[.pointer (some ⟨g, 0, none⟩)] w fun e w' => e = .returned (.int .i64 r1) ∧ ma_ w0 w' g s0_0 r2 ∧ Below w0.heap.size w0 w' ∧ ib_ w w' g none := by
 have HI0 := ba_.mk hI
 have HK := ba_.mk (ib_.refl w g none)
 have HL := ba_.mk hB.size
 clear hI
 have HW0 := ba_.mk hB.size
 have HB := ba_.mk hB
 clear hB
 have H : (if s0_1 ≥ (s0_0.length : Int) then (some (0, s0_1)) else (if 0 ≤ (wrap64 ((wrap64 (s0_1 + 1)) - 1)) then (if (wrap64 ((wrap64 (s0_1 + 1)) - 1)) < (s0_0.length : Int) then (some (rd s0_0 (wrap64 ((wrap64 (s0_1 + 1)) - 1)), wrap64 (s0_1 + 1))) else (none)) else (none))) = some (r1, r2) := h
 clear h
 by_cases c2 : s0_1 ≥ (s0_0.length : Int)
 ·rw [if_pos c2] at H
  have c2b0 : decide ((s0_0.length : Int) ≤ s0_1) = true := decide_eq_true c2
  clear c2
  simp only [Option.some.injEq, Prod.mk.injEq] at H
  obtain ⟨rfl, rfl⟩ := H
  obtain ⟨ASz3_0, cSz3_0, HGz3, hgz3, HSz3_0⟩ := HI0.out
  have hcz3_0 := lk_ HGz3
  have hcz3_1 := mk_ HGz3
  have hfz3_1 := ha_ HGz3 1
  clear HGz3 hgz3
  go_enter Tryd.func35, Tryd.ntmps35
  go_wp2
  repeat (go_quiet (fail); try go_wp2)
  go_ret
  exact ⟨by first | rfl | (simp [xa_, ya_] <;> rfl) | (simp [*, xa_, ya_] <;> rfl), by repeat (first | (with_reducible first | exact HI0.out | apply ma_.alloc | apply ma_.drewN | apply ma_.drew | apply ma_.od_) | exact HI0.out), by repeat (first | (with_reducible first | exact HB.out | apply da_ | apply aa_ | apply ca_ | refine ia_ ?_ (ma_.ge HI0.out)) | exact HB.out), by repeat (first | (with_reducible first | exact HK.out | apply ib_.set_ | apply cc_ | apply ic_ | apply bc_) | exact HK.out)⟩
 ·rw [if_neg c2] at H
  have c2b0 : decide ((s0_0.length : Int) ≤ s0_1) = false := decide_eq_false c2
  clear c2
  obtain ⟨ji4, hji4⟩ : ∃ j_ : Int, (wrap64 ((wrap64 (s0_1 + 1)) - 1)) = j_ := ⟨_, rfl⟩
  replace H : (if 0 ≤ (ji4) then (if (ji4) < (s0_0.length : Int) then (some (rd s0_0 (ji4), wrap64 (s0_1 + 1))) else (none)) else (none)) = some (r1, r2) := by first | (rw [hji4] at H; exact H) | (simp only [hji4] at H ⊢; exact H)
  have hji4w : (IntKind.i64.wrap ((wrap64 (s0_1 + 1)) - 1)) = ji4 := (fb_ _).trans hji4
  by_cases c5 : 0 ≤ (ji4)
  ·rw [if_pos c5] at H
   have c5b0 : decide (0 ≤ (ji4)) = true := decide_eq_true c5
   clear c5
   by_cases c6 : (ji4) < (s0_0.length : Int)
   ·rw [if_pos c6] at H
    have c6b0 : decide ((ji4) < (s0_0.length : Int)) = true := decide_eq_true c6
    clear c6
    simp only [Option.some.injEq, Prod.mk.injEq] at H
    obtain ⟨rfl, rfl⟩ := H
    obtain ⟨ASz7_0, cSz7_0, HGz7, hgz7, HSz7_0⟩ := HI0.out
    have hcz7_0 := lk_ HGz7
    have hcz7_1 := mk_ HGz7
    have hfz7_1 := ha_ HGz7 1
    clear HGz7 hgz7
    have p104 : 0 ≤ ((ji4) : Int) := of_decide_eq_true (by first | (with_reducible assumption) | assumption)
    have q104 : (ji4) < (s0_0.length : Int) := of_decide_eq_true (by first | (with_reducible assumption) | assumption)
    obtain ⟨ad104, e104, hx104_0⟩ := Kd.id_ HSz7_0 (ji4) p104 q104
    cases e104
    have hn104_0 : ad104.block ≠ g := Nat.ne_of_lt (Nat.lt_of_lt_of_le (by have := World.block_lt_of_cell? _ _ hx104_0; first | rwa [cb_] at this | exact this) (ma_.ge HI0.out))
    replace hx104_0 := re_ HB.out hx104_0
    replace hx104_0 := (cell_far (p := ⟨g, 1, none⟩) (by first | (rw [cb_]; exact hn104_0) | (show (Addr.add _ _).block ≠ _; rw [cb_]; exact hn104_0) | exact hn104_0) (.int .i64 (wrap64 (s0_1 + 1)))).trans hx104_0
    (try have hy104_0 := fun (n_ : Nat) => (show (((w.drewN n_).setCell ⟨g, 1, none⟩ (.int .i64 (wrap64 (s0_1 + 1))))).cell? _ = some _ from hx104_0))
    clear hn104_0
    replace p104 := eq_true p104
    replace q104 := eq_true q104
    go_enter Tryd.func35, Tryd.ntmps35
    go_wp2
    repeat (go_quiet (fail); try go_wp2)
    go_ret
    exact ⟨by first | rfl | (simp [xa_, ya_] <;> rfl) | (simp only [← hji4]; first | rfl | (simp [xa_, ya_] <;> rfl)) | (simp [*, xa_, ya_] <;> rfl), by repeat (first | (with_reducible first | exact HI0.out | apply ma_.alloc | apply ma_.drewN | apply ma_.drew | apply ma_.od_) | exact HI0.out), by repeat (first | (with_reducible first | exact HB.out | apply da_ | apply aa_ | apply ca_ | refine ia_ ?_ (ma_.ge HI0.out)) | exact HB.out), by repeat (first | (with_reducible first | exact HK.out | apply ib_.set_ | apply cc_ | apply ic_ | apply bc_) | exact HK.out)⟩
   ·rw [if_neg c6] at H
    exact absurd H (by simp)
  ·rw [if_neg c5] at H
   exact absurd H (by simp)
def xb_.f (s0_0 : List Int) (s0_1 : Int) (a1 : Int) : Option (Int × Int) := (pc_.f s0_0 s0_1).bind fun bt105 => ((yc_.f bt105.1 a1).bind fun t107 => (some (t107, bt105.2)))
set_option maxHeartbeats 8000000 in
set_option maxRecDepth 100000 in
theorem xb_.calls (g : Nat) (s0_0 : List Int) (s0_1 : Int) (a1 : Int) (r1 : Int) (r2 : Int) (w0 w : World) (hI : ma_ w0 w g s0_0 s0_1) (hB : Below w0.heap.size w0 w) (h : xb_.f s0_0 s0_1 a1 = some (r1, r2)) :
  Calls Tryd.prog 23 #[.pointer (some ⟨g, 0, none⟩), .int .i64 a1] w fun e w' => e = .returned (.int .i64 r1) ∧ ma_ w0 w' g s0_0 r2 ∧ Below w0.heap.size w0 w' ∧ ib_ w w' g none := by
 have HI0 := ba_.mk hI
 have HK := ba_.mk (ib_.refl w g none)
 have HL := ba_.mk hB.size
 clear hI
 have HW0 := ba_.mk hB.size
 have HB := ba_.mk hB
 clear hB
 have H : ((pc_.f s0_0 s0_1).bind fun bt105 => ((yc_.f bt105.1 a1).bind fun t107 => (some (t107, bt105.2)))) = some (r1, r2) := h
 clear h
 replace H := Option.bind_eq_some_iff.mp H
 obtain ⟨⟨t105, t106⟩, A30, H⟩ := H
 replace H : ((yc_.f t105 a1).bind fun t107 => (some (t107, t106))) = some (r1, r2) := H
 have A3 := ba_.mk A30
 clear A30
 replace H := Option.bind_eq_some_iff.mp H
 obtain ⟨t107, A40, H⟩ := H
 replace H : (some (t107, t106)) = some (r1, r2) := H
 have A4 := ba_.mk A40
 clear A40
 simp only [Option.some.injEq, Prod.mk.injEq] at H
 obtain ⟨rfl, rfl⟩ := H
 go_enter Tryd.func23, Tryd.ntmps23
 go_wp2_with (first | ((with_reducible refine la_ (f := 35) rfl ?_); refine wb_ (some 6) rfl rfl Tryd.func35 (by kernel_rfl) rfl #[.pointer (some ⟨g, 0, none⟩)] rfl (by (try simp only [List.map_toArray, List.map_cons, List.map_nil]); first | done | rfl | (simp only [List.length_drop, List.length_take]; rfl)) ?_; (with_reducible refine (pc_.calls g s0_0 s0_1 t105 t106 w0 _ ?side1 ?side2 A3.out).mono ?_); (case side1 => repeat (first | (with_reducible first | exact HI0.out | apply ma_.alloc | apply ma_.drewN | apply ma_.drew | apply ma_.od_) | exact HI0.out)); (case side2 => repeat (first | (with_reducible first | exact HB.out | apply da_ | apply aa_ | apply ca_ | refine ia_ ?_ (ma_.ge HI0.out)) | exact HB.out)); rintro e w5 ⟨rfl, hi, hb, hk⟩; refine ⟨_, rfl, ?_⟩; have n0_ := ba_.mk (ib_.trans (by repeat (first | (with_reducible first | exact HK.out | apply ib_.set_ | apply cc_ | apply ic_ | apply bc_) | exact HK.out)) hk (.inl rfl)); have n1_ := ba_.mk (hb); have n2_ := ba_.mk (hi); clear HK; clear HB; clear HI0; have HK := n0_; have HB := n1_; have HI0 := n2_; clear n0_ n1_ n2_; (try clear hb); (try clear hb2); (try clear hk); (try clear hi)) | ((with_reducible refine la_ (f := 34) rfl ?_); refine wb_ (some 8) rfl rfl Tryd.func34 (by kernel_rfl) rfl #[.int .i64 t105, .int .i64 a1] rfl (by (try simp only [List.map_toArray, List.map_cons, List.map_nil]); first | done | rfl | (simp only [List.length_drop, List.length_take]; rfl)) ?_; (with_reducible refine (yc_.calls t105 a1 t107 _ A4.out).mono ?_); rintro e w' ⟨rfl, ⟨nd, rfl⟩⟩; refine ⟨_, rfl, ?_⟩))
 go_ret
 exact ⟨by first | rfl | (simp [xa_, ya_] <;> rfl) | (simp [*, xa_, ya_] <;> rfl), by repeat (first | (with_reducible first | exact HI0.out | apply ma_.alloc | apply ma_.drewN | apply ma_.drew | apply ma_.od_) | exact HI0.out), by repeat (first | (with_reducible first | exact HB.out | apply da_ | apply aa_ | apply ca_ | refine ia_ ?_ (ma_.ge HI0.out)) | exact HB.out), by repeat (first | (with_reducible first | exact HK.out | apply ib_.set_ | apply cc_ | apply ic_ | apply bc_) | exact HK.out)⟩
def lc_.f (s0_0 : List Int) (s0_1 : Int) (a1 : Int) : Option (Bool × Int) := (xb_.f s0_0 s0_1 a1).bind fun bt108 => (some ((bt108.1 == (wrap64 (a1 - 1))), bt108.2))
set_option maxHeartbeats 8000000 in
set_option maxRecDepth 100000 in
theorem lc_.calls (g : Nat) (s0_0 : List Int) (s0_1 : Int) (a1 : Int) (r1 : Bool) (r2 : Int) (w0 w : World) (hI : ma_ w0 w g s0_0 s0_1) (hB : Below w0.heap.size w0 w) (h : lc_.f s0_0 s0_1 a1 = some (r1, r2)) :
  Calls Tryd.prog 21 #[.pointer (some ⟨g, 0, none⟩), .int .i64 a1] w fun e w' => e = .returned (.bool r1) ∧ ma_ w0 w' g s0_0 r2 ∧ Below w0.heap.size w0 w' ∧ ib_ w w' g none := by
 have HI0 := ba_.mk hI
 have HK := ba_.mk (ib_.refl w g none)
 have HL := ba_.mk hB.size
 clear hI
 have HW0 := ba_.mk hB.size
 have HB := ba_.mk hB
 clear hB
 have H : ((xb_.f s0_0 s0_1 a1).bind fun bt108 => (some ((bt108.1 == (wrap64 (a1 - 1))), bt108.2))) = some (r1, r2) := h
 clear h
 replace H := Option.bind_eq_some_iff.mp H
 obtain ⟨⟨t108, t109⟩, A30, H⟩ := H
 replace H : (some ((t108 == (wrap64 (a1 - 1))), t109)) = some (r1, r2) := H
 have A3 := ba_.mk A30
 clear A30
 simp only [Option.some.injEq, Prod.mk.injEq] at H
 obtain ⟨rfl, rfl⟩ := H
 go_enter Tryd.func21, Tryd.ntmps21
 go_wp2_with (first | ((with_reducible refine la_ (f := 23) rfl ?_); refine wb_ (some 7) rfl rfl Tryd.func23 (by kernel_rfl) rfl #[.pointer (some ⟨g, 0, none⟩), .int .i64 a1] rfl (by (try simp only [List.map_toArray, List.map_cons, List.map_nil]); first | done | rfl | (simp only [List.length_drop, List.length_take]; rfl)) ?_; (with_reducible refine (xb_.calls g s0_0 s0_1 a1 t108 t109 w0 _ ?side1 ?side2 A3.out).mono ?_); (case side1 => repeat (first | (with_reducible first | exact HI0.out | apply ma_.alloc | apply ma_.drewN | apply ma_.drew | apply ma_.od_) | exact HI0.out)); (case side2 => repeat (first | (with_reducible first | exact HB.out | apply da_ | apply aa_ | apply ca_ | refine ia_ ?_ (ma_.ge HI0.out)) | exact HB.out)); rintro e w4 ⟨rfl, hi, hb, hk⟩; refine ⟨_, rfl, ?_⟩; have n0_ := ba_.mk (ib_.trans (by repeat (first | (with_reducible first | exact HK.out | apply ib_.set_ | apply cc_ | apply ic_ | apply bc_) | exact HK.out)) hk (.inl rfl)); have n1_ := ba_.mk (hb); have n2_ := ba_.mk (hi); clear HK; clear HB; clear HI0; have HK := n0_; have HB := n1_; have HI0 := n2_; clear n0_ n1_ n2_; (try clear hb); (try clear hb2); (try clear hk); (try clear hi)))
 go_ret
 exact ⟨by first | rfl | (simp [xa_, ya_] <;> rfl) | (simp [*, xa_, ya_] <;> rfl), by repeat (first | (with_reducible first | exact HI0.out | apply ma_.alloc | apply ma_.drewN | apply ma_.drew | apply ma_.od_) | exact HI0.out), by repeat (first | (with_reducible first | exact HB.out | apply da_ | apply aa_ | apply ca_ | refine ia_ ?_ (ma_.ge HI0.out)) | exact HB.out), by repeat (first | (with_reducible first | exact HK.out | apply ib_.set_ | apply cc_ | apply ic_ | apply bc_) | exact HK.out)⟩
def ub_.f (s0_0 : List Int) (s0_1 : Int) (l1 : List Int) : Option (Int × Int) := (xb_.f s0_0 s0_1 (l1.length : Int)).bind fun bt110 => (if 0 ≤ bt110.1 then (if bt110.1 < (l1.length : Int) then (some (rd l1 bt110.1, bt110.2)) else (none)) else (none))
set_option maxHeartbeats 8000000 in
set_option maxRecDepth 100000 in
theorem ub_.calls (g : Nat) (s0_0 : List Int) (s0_1 : Int) (A1 : Option Addr) (c1 : Nat) (l1 : List Int) (r1 : Int) (r2 : Int) (w0 w : World) (hI : ma_ w0 w g s0_0 s0_1) (hB : Below w0.heap.size w0 w) (hr1 : Kd.C (Kd.int .i64) w A1 l1.length l1) (hc1 : l1.length ≤ c1) (hf1 : ∀ ad, A1 = some ad → 0 < l1.length → ad.block ≠ g) (h : ub_.f s0_0 s0_1 l1 = some (r1, r2)) :
  Calls Tryd.prog 14 #[.pointer (some ⟨g, 0, none⟩), .slice A1 l1.length c1] w fun e w' => e = .returned (.int .i64 r1) ∧ ma_ w0 w' g s0_0 r2 ∧ Below w0.heap.size w0 w' ∧ ib_ w w' g none := by
 have HR1 := ba_.mk hr1
 have HC1 := ba_.mk hc1
 clear hr1 hc1
 have HI0 := ba_.mk hI
 have HK := ba_.mk (ib_.refl w g none)
 have HL := ba_.mk hB.size
 clear hI
 have HW0 := ba_.mk hB.size
 have HB := ba_.mk hB
 clear hB
 have H : ((xb_.f s0_0 s0_1 (l1.length : Int)).bind fun bt110 => (if 0 ≤ bt110.1 then (if bt110.1 < (l1.length : Int) then (some (rd l1 bt110.1, bt110.2)) else (none)) else (none))) = some (r1, r2) := h
 clear h
 replace H := Option.bind_eq_some_iff.mp H
 obtain ⟨⟨t110, t111⟩, A30, H⟩ := H
 replace H : (if 0 ≤ t110 then (if t110 < (l1.length : Int) then (some (rd l1 t110, t111)) else (none)) else (none)) = some (r1, r2) := H
 have A3 := ba_.mk A30
 clear A30
 by_cases c4 : 0 ≤ t110
 ·rw [if_pos c4] at H
  have c4b0 : decide (0 ≤ t110) = true := decide_eq_true c4
  clear c4
  by_cases c5 : t110 < (l1.length : Int)
  ·rw [if_pos c5] at H
   have c5b0 : decide (t110 < (l1.length : Int)) = true := decide_eq_true c5
   clear c5
   simp only [Option.some.injEq, Prod.mk.injEq] at H
   obtain ⟨rfl, rfl⟩ := H
   go_enter Tryd.func14, Tryd.ntmps14
   go_wp2_with (first | ((with_reducible refine la_ (f := 23) rfl ?_); refine wb_ (some 9) rfl rfl Tryd.func23 (by kernel_rfl) rfl #[.pointer (some ⟨g, 0, none⟩), .int .i64 (l1.length : Int)] rfl (by (try simp only [List.map_toArray, List.map_cons, List.map_nil]); first | done | rfl | (simp only [List.length_drop, List.length_take]; rfl)) ?_; (with_reducible refine (xb_.calls g s0_0 s0_1 (l1.length : Int) t110 t111 w0 _ ?side1 ?side2 A3.out).mono ?_); (case side1 => repeat (first | (with_reducible first | exact HI0.out | apply ma_.alloc | apply ma_.drewN | apply ma_.drew | apply ma_.od_) | exact HI0.out)); (case side2 => repeat (first | (with_reducible first | exact HB.out | apply da_ | apply aa_ | apply ca_ | refine ia_ ?_ (ma_.ge HI0.out)) | exact HB.out)); rintro e w6 ⟨rfl, hi, hb, hk⟩; refine ⟨_, rfl, ?_⟩; have n0_ := ba_.mk (ib_.trans (by repeat (first | (with_reducible first | exact HK.out | apply ib_.set_ | apply cc_ | apply ic_ | apply bc_) | exact HK.out)) hk (.inl rfl)); have n1_ := ba_.mk (hb); have n2_ := ba_.mk (hi); clear HK; clear HB; clear HI0; have HK := n0_; have HB := n1_; have HI0 := n2_; clear n0_ n1_ n2_; (try clear hb); (try clear hb2); (try clear hk); (try clear hi); have p112 : 0 ≤ (t110 : Int) := of_decide_eq_true (by first | (with_reducible assumption) | assumption); have q112 : t110 < (l1.length : Int) := of_decide_eq_true (by first | (with_reducible assumption) | assumption); obtain ⟨ad112, e112, hx112_0⟩ := Kd.id_ HR1.out t110 p112 q112; cases e112; replace hx112_0 := ji_ HK.out hx112_0 (by first | (rw [cb_]; exact hf1 _ rfl (by omega)) | exact hf1 _ rfl (by omega) | exact hf1 ad112 rfl (by omega)); replace p112 := eq_true p112; replace q112 := eq_true q112))
   go_ret
   exact ⟨by first | rfl | (simp [xa_, ya_] <;> rfl) | (simp [*, xa_, ya_] <;> rfl), by repeat (first | (with_reducible first | exact HI0.out | apply ma_.alloc | apply ma_.drewN | apply ma_.drew | apply ma_.od_) | exact HI0.out), by repeat (first | (with_reducible first | exact HB.out | apply da_ | apply aa_ | apply ca_ | refine ia_ ?_ (ma_.ge HI0.out)) | exact HB.out), by repeat (first | (with_reducible first | exact HK.out | apply ib_.set_ | apply cc_ | apply ic_ | apply bc_) | exact HK.out)⟩
  ·rw [if_neg c5] at H
   exact absurd H (by simp)
 ·rw [if_neg c4] at H
  exact absurd H (by simp)
def fc_.f (s0_0 : List Int) (s0_1 : Int) : Option (Int × Int) := (ub_.f s0_0 s0_1 (([(-1), 0, 1, 2, 31, 32, 99, 100, 200, 201, 9999, 10000, 1000000, 1000001, 1152921504606846976, 1152921504606846977, (-1152921504606846976), 9223372036854775807, (-9223372036854775808)] : List Int))).bind fun bt116 => (some (bt116.1, bt116.2))
set_option maxHeartbeats 8000000 in
set_option maxRecDepth 100000 in
theorem fc_.calls (g : Nat) (s0_0 : List Int) (s0_1 : Int) (r1 : Int) (r2 : Int) (w0 w : World) (hI : ma_ w0 w g s0_0 s0_1) (hB : Below w0.heap.size w0 w) (h : fc_.f s0_0 s0_1 = some (r1, r2)) :
  Calls Tryd.prog 22 #[.pointer (some ⟨g, 0, none⟩)] w fun e w' => e = .returned (.int .i64 r1) ∧ ma_ w0 w' g s0_0 r2 ∧ Below w0.heap.size w0 w' ∧ ib_ w w' g none := by
 have HI0 := ba_.mk hI
 have HK := ba_.mk (ib_.refl w g none)
 have HL := ba_.mk hB.size
 clear hI
 have HW0 := ba_.mk hB.size
 have HB := ba_.mk hB
 clear hB
 have H : ((ub_.f s0_0 s0_1 (([(-1), 0, 1, 2, 31, 32, 99, 100, 200, 201, 9999, 10000, 1000000, 1000001, 1152921504606846976, 1152921504606846977, (-1152921504606846976), 9223372036854775807, (-9223372036854775808)] : List Int))).bind fun bt116 => (some (bt116.1, bt116.2))) = some (r1, r2) := h
 clear h
 obtain ⟨y113, hy113⟩ : ∃ y_ : List Int, y_ = (([(-1), 0, 1, 2, 31, 32, 99, 100, 200, 201, 9999, 10000, 1000000, 1000001, 1152921504606846976, 1152921504606846977, (-1152921504606846976), 9223372036854775807, (-9223372036854775808)] : List Int)) := ⟨_, rfl⟩
 replace H : ((ub_.f s0_0 s0_1 y113).bind fun bt116 => (some (bt116.1, bt116.2))) = some (r1, r2) := by first | (rw [hy113]; with_reducible exact H) | (have H2_ := (Option.bind_some _ _).symm.trans H; rw [hy113]; with_reducible exact H2_) | (have H2_ := (Option.bind_some _ _).symm.trans H; with_reducible exact H2_) | with_reducible exact H | (rw [hy113]; exact H) | exact H
 have Ny113 := ba_.mk hy113
 clear hy113
 replace H := Option.bind_eq_some_iff.mp H
 obtain ⟨⟨t116, t117⟩, A20, H⟩ := H
 replace H : (some (t116, t117)) = some (r1, r2) := H
 have A2 := ba_.mk A20
 clear A20
 simp only [Option.some.injEq, Prod.mk.injEq] at H
 obtain ⟨rfl, rfl⟩ := H
 go_enter Tryd.func22, Tryd.ntmps22
 go_wp2_with (first | ((with_reducible refine hc_ (N := 4) rfl ?_); refine Kd.ai_ (Kd.int .i64) _ 3 ?hg (N := 4) ?hd (xs := ([(-1), 0, 1, 2, 31, 32, 99, 100, 200, 201, 9999, 10000, 1000000, 1000001, 1152921504606846976, 1152921504606846977, (-1152921504606846976), 9223372036854775807, (-9223372036854775808)] : List Int)) (inner := [.int .i64 (-1), .int .i64 0, .int .i64 1, .int .i64 2, .int .i64 31, .int .i64 32, .int .i64 99, .int .i64 100, .int .i64 200, .int .i64 201, .int .i64 9999, .int .i64 10000, .int .i64 1000000, .int .i64 1000001, .int .i64 1152921504606846976, .int .i64 1152921504606846977, .int .i64 (-1152921504606846976), .int .i64 9223372036854775807, .int .i64 (-9223372036854775808)]) (ok := fun _ => True) (okp := fun _ => True) ?hr ?hp (fun _ hk => hk) trivial (Below.refl _ _) (Nat.le_refl _) (by simp) ?_; (case hd => rfl); (case hg => rfl); (case hr => first | (go_simp; done) | (go_simp; rfl)); (case hp => exact (Reps.one (show Kd.M (Kd.int .i64) _ _ _ (-1) [.int .i64 (-1)] from rfl) (Reps.one (show Kd.M (Kd.int .i64) _ _ _ 0 [.int .i64 0] from rfl) (Reps.one (show Kd.M (Kd.int .i64) _ _ _ 1 [.int .i64 1] from rfl) (Reps.one (show Kd.M (Kd.int .i64) _ _ _ 2 [.int .i64 2] from rfl) (Reps.one (show Kd.M (Kd.int .i64) _ _ _ 31 [.int .i64 31] from rfl) (Reps.one (show Kd.M (Kd.int .i64) _ _ _ 32 [.int .i64 32] from rfl) (Reps.one (show Kd.M (Kd.int .i64) _ _ _ 99 [.int .i64 99] from rfl) (Reps.one (show Kd.M (Kd.int .i64) _ _ _ 100 [.int .i64 100] from rfl) (Reps.one (show Kd.M (Kd.int .i64) _ _ _ 200 [.int .i64 200] from rfl) (Reps.one (show Kd.M (Kd.int .i64) _ _ _ 201 [.int .i64 201] from rfl) (Reps.one (show Kd.M (Kd.int .i64) _ _ _ 9999 [.int .i64 9999] from rfl) (Reps.one (show Kd.M (Kd.int .i64) _ _ _ 10000 [.int .i64 10000] from rfl) (Reps.one (show Kd.M (Kd.int .i64) _ _ _ 1000000 [.int .i64 1000000] from rfl) (Reps.one (show Kd.M (Kd.int .i64) _ _ _ 1000001 [.int .i64 1000001] from rfl) (Reps.one (show Kd.M (Kd.int .i64) _ _ _ 1152921504606846976 [.int .i64 1152921504606846976] from rfl) (Reps.one (show Kd.M (Kd.int .i64) _ _ _ 1152921504606846977 [.int .i64 1152921504606846977] from rfl) (Reps.one (show Kd.M (Kd.int .i64) _ _ _ (-1152921504606846976) [.int .i64 (-1152921504606846976)] from rfl) (Reps.one (show Kd.M (Kd.int .i64) _ _ _ 9223372036854775807 [.int .i64 9223372036854775807] from rfl) (Reps.one (show Kd.M (Kd.int .i64) _ _ _ (-9223372036854775808) [.int .i64 (-9223372036854775808)] from rfl) (Reps.none _ _))))))))))))))))))))); intro v114 w3 ho4 hb hg_ hnew_; clear hg_ hnew_; (first | rw [← Ny113.out] at ho4 | (simp only [Int.reduceToNat] at ho4; rw [← Ny113.out] at ho4)); have n0_ := ba_.mk (Kd.wc_ ho4 (wg_ (w := w) (g := g) (row := none) (by repeat (first | (with_reducible first | exact HK.out | apply ib_.set_ | apply cc_ | apply ic_ | apply bc_) | exact HK.out)))); have n1_ := ba_.mk (ma_.below (by repeat (first | (with_reducible first | exact HI0.out | apply ma_.alloc | apply ma_.drewN | apply ma_.drew | apply ma_.od_) | exact HI0.out)) hb); have n2_ := ba_.mk (ib_.trans (by repeat (first | (with_reducible first | exact HK.out | apply ib_.set_ | apply cc_ | apply ic_ | apply bc_) | exact HK.out)) (ib_.xg_ hb g none) (.inl rfl)); have n3_ := ba_.mk (pa_ (by repeat (first | (with_reducible first | exact HB.out | apply da_ | apply aa_ | apply ca_ | refine ia_ ?_ (ma_.ge HI0.out)) | exact HB.out)) hb); clear HI0; clear HK; clear HB; have HO115 := n0_; have HI0 := n1_; have HK := n2_; have HB := n3_; clear n0_ n1_ n2_ n3_; clear hb ho4; obtain ⟨Ao5, co5, eo5⟩ := Kd.nc_ HO115.out; subst eo5) | ((with_reducible refine la_ (f := 14) rfl ?_); refine wb_ (some 5) rfl rfl Tryd.func14 (by kernel_rfl) rfl #[.pointer (some ⟨g, 0, none⟩), .slice Ao5 y113.length co5] rfl (by (try simp only [List.map_toArray, List.map_cons, List.map_nil]); first | done | rfl | (simp only [List.length_drop, List.length_take]; rfl)) ?_; (with_reducible refine (ub_.calls g s0_0 s0_1 _ _ y113 t116 t117 w0 _ ?side1 ?side2 ?side3 ?side4 ?side5 A2.out).mono ?_); (case side1 => repeat (first | (with_reducible first | exact HI0.out | apply ma_.alloc | apply ma_.drewN | apply ma_.drew | apply ma_.od_) | exact HI0.out)); (case side2 => repeat (first | (with_reducible first | exact HB.out | apply da_ | apply aa_ | apply ca_ | refine ia_ ?_ (ma_.ge HI0.out)) | exact HB.out)); (case side3 => repeat (first | exact (Kd.lb_ HO115.out).2.2 | (with_reducible refine Kd.zc_ ?_ _) | (with_reducible refine Kd.ad_ ?_ _) | (with_reducible refine Kd.md_ ?_))); (case side4 => exact (Kd.lb_ HO115.out).2.1); (case side5 => exact sk_ (ma_.nj_ HI0.out HO115.out (by decide))); rintro e w6 ⟨rfl, hi, hb, hk⟩; refine ⟨_, rfl, ?_⟩; have n0_ := ba_.mk (Kd.uc_ (Kd.zh_ (ma_.apart (show ma_ w0 _ g s0_0 s0_1 from by repeat (first | (with_reducible first | exact HI0.out | apply ma_.alloc | apply ma_.drewN | apply ma_.drew | apply ma_.od_) | exact HI0.out)) (by (with_reducible repeat (first | apply Kd.ta_ | apply Kd.ua_ | apply Kd.db_)); exact HO115.out) (by decide)) hk (fun _ h => h.2)) (fun _ h => h.1)); have n1_ := ba_.mk (ib_.trans (by repeat (first | (with_reducible first | exact HK.out | apply ib_.set_ | apply cc_ | apply ic_ | apply bc_) | exact HK.out)) hk (.inl rfl)); have n2_ := ba_.mk (hb); have n3_ := ba_.mk (hi); clear HO115; clear HK; clear HB; clear HI0; have HO115 := n0_; have HK := n1_; have HB := n2_; have HI0 := n3_; clear n0_ n1_ n2_ n3_; (try clear hb); (try clear hb2); (try clear hk); (try clear hi)))
 go_ret
 exact ⟨by first | rfl | (simp [xa_, ya_] <;> rfl) | (simp [*, xa_, ya_] <;> rfl), by repeat (first | (with_reducible first | exact HI0.out | apply ma_.alloc | apply ma_.drewN | apply ma_.drew | apply ma_.od_) | exact HI0.out), by repeat (first | (with_reducible first | exact HB.out | apply da_ | apply aa_ | apply ca_ | refine ia_ ?_ (ma_.ge HI0.out)) | exact HB.out), by repeat (first | (with_reducible first | exact HK.out | apply ib_.set_ | apply cc_ | apply ic_ | apply bc_) | exact HK.out)⟩
def ka_.f (s0_0 : List Int) (s0_1 : Int) (a1 : Int) (a2 : Int) : Option (Int × Int) := if a2 > 0 then ((lc_.f s0_0 s0_1 a2).bind fun bt118 => (if bt118.1 = true then ((fc_.f s0_0 bt118.2).bind fun bt120 => (some (bt120.1, bt120.2))) else (some (a1, bt118.2)))) else (some (a1, s0_1))
set_option maxHeartbeats 8000000 in
set_option maxRecDepth 100000 in
theorem ka_.calls (g : Nat) (s0_0 : List Int) (s0_1 : Int) (a1 : Int) (a2 : Int) (r1 : Int) (r2 : Int) (w0 w : World) (hI : ma_ w0 w g s0_0 s0_1) (hB : Below w0.heap.size w0 w) (h : ka_.f s0_0 s0_1 a1 a2 = some (r1, r2)) :
  Calls Tryd.prog 12 #[.pointer (some ⟨g, 0, none⟩), .int .i64 a1, .int .i64 a2] w fun e w' => e = .returned (.int .i64 r1) ∧ ma_ w0 w' g s0_0 r2 ∧ Below w0.heap.size w0 w' ∧ ib_ w w' g none := by
 have HI0 := ba_.mk hI
 have HK := ba_.mk (ib_.refl w g none)
 have HL := ba_.mk hB.size
 clear hI
 have HW0 := ba_.mk hB.size
 have HB := ba_.mk hB
 clear hB
 have H : (if a2 > 0 then ((lc_.f s0_0 s0_1 a2).bind fun bt118 => (if bt118.1 = true then ((fc_.f s0_0 bt118.2).bind fun bt120 => (some (bt120.1, bt120.2))) else (some (a1, bt118.2)))) else (some (a1, s0_1))) = some (r1, r2) := h
 clear h
 by_cases c4 : a2 > 0
 ·rw [if_pos c4] at H
  have c4b0 : decide (0 < a2) = true := decide_eq_true c4
  clear c4
  replace H := Option.bind_eq_some_iff.mp H
  obtain ⟨⟨t118, t119⟩, A50, H⟩ := H
  replace H : (if t118 = true then ((fc_.f s0_0 t119).bind fun bt120 => (some (bt120.1, bt120.2))) else (some (a1, t119))) = some (r1, r2) := H
  have A5 := ba_.mk A50
  clear A50
  by_cases c6 : t118 = true
  ·subst c6
   have H1 : ((fc_.f s0_0 t119).bind fun bt120 => (some (bt120.1, bt120.2))) = some (r1, r2) := by rw [if_pos rfl] at H; exact H
   clear H
   have H := H1
   clear H1
   replace H := Option.bind_eq_some_iff.mp H
   obtain ⟨⟨t120, t121⟩, A70, H⟩ := H
   replace H : (some (t120, t121)) = some (r1, r2) := H
   have A7 := ba_.mk A70
   clear A70
   simp only [Option.some.injEq, Prod.mk.injEq] at H
   obtain ⟨rfl, rfl⟩ := H
   go_enter Tryd.func12, Tryd.ntmps12
   go_wp2_with (first | (go_at_call 21; (with_reducible refine (lc_.calls g s0_0 s0_1 a2 true t119 w0 _ ?side1 ?side2 A5.out).mono ?_); (case side1 => repeat (first | (with_reducible first | exact HI0.out | apply ma_.alloc | apply ma_.drewN | apply ma_.drew | apply ma_.od_) | exact HI0.out)); (case side2 => repeat (first | (with_reducible first | exact HB.out | apply da_ | apply aa_ | apply ca_ | refine ia_ ?_ (ma_.ge HI0.out)) | exact HB.out)); rintro e w8 ⟨rfl, hi, hb, hk⟩; have n0_ := ba_.mk (ib_.trans (by repeat (first | (with_reducible first | exact HK.out | apply ib_.set_ | apply cc_ | apply ic_ | apply bc_) | exact HK.out)) hk (.inl rfl)); have n1_ := ba_.mk (hb); have n2_ := ba_.mk (hi); clear HK; clear HB; clear HI0; have HK := n0_; have HB := n1_; have HI0 := n2_; clear n0_ n1_ n2_; (try clear hb); (try clear hb2); (try clear hk); (try clear hi)) | ((with_reducible refine la_ (f := 22) rfl ?_); refine wb_ (some 15) rfl rfl Tryd.func22 (by kernel_rfl) rfl #[.pointer (some ⟨g, 0, none⟩)] rfl (by (try simp only [List.map_toArray, List.map_cons, List.map_nil]); first | done | rfl | (simp only [List.length_drop, List.length_take]; rfl)) ?_; (with_reducible refine (fc_.calls g s0_0 t119 t120 t121 w0 _ ?side1 ?side2 A7.out).mono ?_); (case side1 => repeat (first | (with_reducible first | exact HI0.out | apply ma_.alloc | apply ma_.drewN | apply ma_.drew | apply ma_.od_) | exact HI0.out)); (case side2 => repeat (first | (with_reducible first | exact HB.out | apply da_ | apply aa_ | apply ca_ | refine ia_ ?_ (ma_.ge HI0.out)) | exact HB.out)); rintro e w9 ⟨rfl, hi, hb, hk⟩; refine ⟨_, rfl, ?_⟩; have n0_ := ba_.mk (ib_.trans (by repeat (first | (with_reducible first | exact HK.out | apply ib_.set_ | apply cc_ | apply ic_ | apply bc_) | exact HK.out)) hk (.inl rfl)); have n1_ := ba_.mk (hb); have n2_ := ba_.mk (hi); clear HK; clear HB; clear HI0; have HK := n0_; have HB := n1_; have HI0 := n2_; clear n0_ n1_ n2_; (try clear hb); (try clear hb2); (try clear hk); (try clear hi)))
   go_ret
   exact ⟨by first | rfl | (simp [xa_, ya_] <;> rfl) | (simp [*, xa_, ya_] <;> rfl), by repeat (first | (with_reducible first | exact HI0.out | apply ma_.alloc | apply ma_.drewN | apply ma_.drew | apply ma_.od_) | exact HI0.out), by repeat (first | (with_reducible first | exact HB.out | apply da_ | apply aa_ | apply ca_ | refine ia_ ?_ (ma_.ge HI0.out)) | exact HB.out), by repeat (first | (with_reducible first | exact HK.out | apply ib_.set_ | apply cc_ | apply ic_ | apply bc_) | exact HK.out)⟩
  ·replace c6 := Bool.eq_false_iff.mpr c6
   subst c6
   have H1 : (some (a1, t119)) = some (r1, r2) := by rw [if_neg (show ¬ (false = true) by decide)] at H; exact H
   clear H
   have H := H1
   clear H1
   simp only [Option.some.injEq, Prod.mk.injEq] at H
   obtain ⟨rfl, rfl⟩ := H
   go_enter Tryd.func12, Tryd.ntmps12
   go_wp2_with (first | (go_at_call 21; (with_reducible refine (lc_.calls g s0_0 s0_1 a2 false t119 w0 _ ?side1 ?side2 A5.out).mono ?_); (case side1 => repeat (first | (with_reducible first | exact HI0.out | apply ma_.alloc | apply ma_.drewN | apply ma_.drew | apply ma_.od_) | exact HI0.out)); (case side2 => repeat (first | (with_reducible first | exact HB.out | apply da_ | apply aa_ | apply ca_ | refine ia_ ?_ (ma_.ge HI0.out)) | exact HB.out)); rintro e w10 ⟨rfl, hi, hb, hk⟩; have n0_ := ba_.mk (ib_.trans (by repeat (first | (with_reducible first | exact HK.out | apply ib_.set_ | apply cc_ | apply ic_ | apply bc_) | exact HK.out)) hk (.inl rfl)); have n1_ := ba_.mk (hb); have n2_ := ba_.mk (hi); clear HK; clear HB; clear HI0; have HK := n0_; have HB := n1_; have HI0 := n2_; clear n0_ n1_ n2_; (try clear hb); (try clear hb2); (try clear hk); (try clear hi)))
   go_ret
   exact ⟨by first | rfl | (simp [xa_, ya_] <;> rfl) | (simp [*, xa_, ya_] <;> rfl), by repeat (first | (with_reducible first | exact HI0.out | apply ma_.alloc | apply ma_.drewN | apply ma_.drew | apply ma_.od_) | exact HI0.out), by repeat (first | (with_reducible first | exact HB.out | apply da_ | apply aa_ | apply ca_ | refine ia_ ?_ (ma_.ge HI0.out)) | exact HB.out), by repeat (first | (with_reducible first | exact HK.out | apply ib_.set_ | apply cc_ | apply ic_ | apply bc_) | exact HK.out)⟩
 ·rw [if_neg c4] at H
  have c4b0 : decide (0 < a2) = false := decide_eq_false c4
  clear c4
  simp only [Option.some.injEq, Prod.mk.injEq] at H
  obtain ⟨rfl, rfl⟩ := H
  go_enter Tryd.func12, Tryd.ntmps12
  go_wp2
  go_ret
  exact ⟨by first | rfl | (simp [xa_, ya_] <;> rfl) | (simp [*, xa_, ya_] <;> rfl), by repeat (first | (with_reducible first | exact HI0.out | apply ma_.alloc | apply ma_.drewN | apply ma_.drew | apply ma_.od_) | exact HI0.out), by repeat (first | (with_reducible first | exact HB.out | apply da_ | apply aa_ | apply ca_ | refine ia_ ?_ (ma_.ge HI0.out)) | exact HB.out), by repeat (first | (with_reducible first | exact HK.out | apply ib_.set_ | apply cc_ | apply ic_ | apply bc_) | exact HK.out)⟩
def bb_.f (s0_0 : List Int) (s0_1 : Int) (a1 : Int) (a2 : Int) : Option (Int × Int) := (xb_.f s0_0 s0_1 (wrap64 ((wrap64 (a2 - a1)) + 1))).bind fun bt122 => (some (wrap64 (a1 + bt122.1), bt122.2))
set_option maxHeartbeats 8000000 in
set_option maxRecDepth 100000 in
theorem bb_.calls (g : Nat) (s0_0 : List Int) (s0_1 : Int) (a1 : Int) (a2 : Int) (r1 : Int) (r2 : Int) (w0 w : World) (hI : ma_ w0 w g s0_0 s0_1) (hB : Below w0.heap.size w0 w) (h : bb_.f s0_0 s0_1 a1 a2 = some (r1, r2)) :
  Calls Tryd.prog 13 #[.pointer (some ⟨g, 0, none⟩), .int .i64 a1, .int .i64 a2] w fun e w' => e = .returned (.int .i64 r1) ∧ ma_ w0 w' g s0_0 r2 ∧ Below w0.heap.size w0 w' ∧ ib_ w w' g none := by
 have HI0 := ba_.mk hI
 have HK := ba_.mk (ib_.refl w g none)
 have HL := ba_.mk hB.size
 clear hI
 have HW0 := ba_.mk hB.size
 have HB := ba_.mk hB
 clear hB
 have H : ((xb_.f s0_0 s0_1 (wrap64 ((wrap64 (a2 - a1)) + 1))).bind fun bt122 => (some (wrap64 (a1 + bt122.1), bt122.2))) = some (r1, r2) := h
 clear h
 replace H := Option.bind_eq_some_iff.mp H
 obtain ⟨⟨t122, t123⟩, A40, H⟩ := H
 replace H : (some (wrap64 (a1 + t122), t123)) = some (r1, r2) := H
 have A4 := ba_.mk A40
 clear A40
 simp only [Option.some.injEq, Prod.mk.injEq] at H
 obtain ⟨rfl, rfl⟩ := H
 go_enter Tryd.func13, Tryd.ntmps13
 go_wp2_with (first | ((with_reducible refine la_ (f := 23) rfl ?_); refine wb_ (some 13) rfl rfl Tryd.func23 (by kernel_rfl) rfl #[.pointer (some ⟨g, 0, none⟩), .int .i64 (wrap64 ((wrap64 (a2 - a1)) + 1))] rfl (by (try simp only [List.map_toArray, List.map_cons, List.map_nil]); first | done | rfl | (simp only [List.length_drop, List.length_take]; rfl)) ?_; (with_reducible refine (xb_.calls g s0_0 s0_1 (wrap64 ((wrap64 (a2 - a1)) + 1)) t122 t123 w0 _ ?side1 ?side2 A4.out).mono ?_); (case side1 => repeat (first | (with_reducible first | exact HI0.out | apply ma_.alloc | apply ma_.drewN | apply ma_.drew | apply ma_.od_) | exact HI0.out)); (case side2 => repeat (first | (with_reducible first | exact HB.out | apply da_ | apply aa_ | apply ca_ | refine ia_ ?_ (ma_.ge HI0.out)) | exact HB.out)); rintro e w5 ⟨rfl, hi, hb, hk⟩; refine ⟨_, rfl, ?_⟩; have n0_ := ba_.mk (ib_.trans (by repeat (first | (with_reducible first | exact HK.out | apply ib_.set_ | apply cc_ | apply ic_ | apply bc_) | exact HK.out)) hk (.inl rfl)); have n1_ := ba_.mk (hb); have n2_ := ba_.mk (hi); clear HK; clear HB; clear HI0; have HK := n0_; have HB := n1_; have HI0 := n2_; clear n0_ n1_ n2_; (try clear hb); (try clear hb2); (try clear hk); (try clear hi)))
 go_ret
 exact ⟨by first | rfl | (simp [xa_, ya_] <;> rfl) | (simp [*, xa_, ya_] <;> rfl), by repeat (first | (with_reducible first | exact HI0.out | apply ma_.alloc | apply ma_.drewN | apply ma_.drew | apply ma_.od_) | exact HI0.out), by repeat (first | (with_reducible first | exact HB.out | apply da_ | apply aa_ | apply ca_ | refine ia_ ?_ (ma_.ge HI0.out)) | exact HB.out), by repeat (first | (with_reducible first | exact HK.out | apply ib_.set_ | apply cc_ | apply ic_ | apply bc_) | exact HK.out)⟩
def gc_.f (s0_0 : List Int) (s0_1 : Int) (a1 : Int) : Option (Int × Int × Int × Int × Int) := (bb_.f s0_0 s0_1 0 31).bind fun bt125 => ((ka_.f s0_0 bt125.2 bt125.1 a1).bind fun bt127 => ((ub_.f s0_0 bt127.2 (([0, 1, 31, 32, 1023, 1024, 5000, 9998, 9999] : List Int))).bind fun bt132 => ((ka_.f s0_0 bt132.2 bt132.1 a1).bind fun bt134 => ((bb_.f s0_0 bt134.2 0 31).bind fun bt136 => ((ka_.f s0_0 bt136.2 bt136.1 a1).bind fun bt138 => ((bb_.f s0_0 bt138.2 0 31).bind fun bt140 => ((ka_.f s0_0 bt140.2 bt140.1 a1).bind fun bt142 => (some (bt127.1, bt134.1, bt138.1, bt142.1, bt142.2)))))))))
set_option maxHeartbeats 8000000 in
set_option maxRecDepth 100000 in
theorem gc_.calls (g : Nat) (s0_0 : List Int) (s0_1 : Int) (a1 : Int) (r1 : Int) (r2 : Int) (r3 : Int) (r4 : Int) (r5 : Int) (w0 w : World) (hI : ma_ w0 w g s0_0 s0_1) (hB : Below w0.heap.size w0 w) (h : gc_.f s0_0 s0_1 a1 = some (r1, r2, r3, r4, r5)) :
  Calls Tryd.prog 5 #[.pointer (some ⟨g, 0, none⟩), .int .i64 a1] w fun e w' => e = .returned (.agg #[.int .i64 r1, .int .i64 r2, .int .i64 r3, .int .i64 r4]) ∧ ma_ w0 w' g s0_0 r5 ∧ Below w0.heap.size w0 w' ∧ ib_ w w' g none := by
 have hu26 := Tryd.underlying26
 have HI0 := ba_.mk hI
 have HK := ba_.mk (ib_.refl w g none)
 have HL := ba_.mk hB.size
 clear hI
 have HW0 := ba_.mk hB.size
 have HB := ba_.mk hB
 clear hB
 have H : ((bb_.f s0_0 s0_1 0 31).bind fun bt125 => ((ka_.f s0_0 bt125.2 bt125.1 a1).bind fun bt127 => ((ub_.f s0_0 bt127.2 (([0, 1, 31, 32, 1023, 1024, 5000, 9998, 9999] : List Int))).bind fun bt132 => ((ka_.f s0_0 bt132.2 bt132.1 a1).bind fun bt134 => ((bb_.f s0_0 bt134.2 0 31).bind fun bt136 => ((ka_.f s0_0 bt136.2 bt136.1 a1).bind fun bt138 => ((bb_.f s0_0 bt138.2 0 31).bind fun bt140 => ((ka_.f s0_0 bt140.2 bt140.1 a1).bind fun bt142 => (some (bt127.1, bt134.1, bt138.1, bt142.1, bt142.2)))))))))) = some (r1, r2, r3, r4, r5) := h
 clear h
 replace H := Option.bind_eq_some_iff.mp H
 obtain ⟨⟨t125, t126⟩, A30, H⟩ := H
 replace H : ((ka_.f s0_0 t126 t125 a1).bind fun bt127 => ((ub_.f s0_0 bt127.2 (([0, 1, 31, 32, 1023, 1024, 5000, 9998, 9999] : List Int))).bind fun bt132 => ((ka_.f s0_0 bt132.2 bt132.1 a1).bind fun bt134 => ((bb_.f s0_0 bt134.2 0 31).bind fun bt136 => ((ka_.f s0_0 bt136.2 bt136.1 a1).bind fun bt138 => ((bb_.f s0_0 bt138.2 0 31).bind fun bt140 => ((ka_.f s0_0 bt140.2 bt140.1 a1).bind fun bt142 => (some (bt127.1, bt134.1, bt138.1, bt142.1, bt142.2))))))))) = some (r1, r2, r3, r4, r5) := H
 have A3 := ba_.mk A30
 clear A30
 replace H := Option.bind_eq_some_iff.mp H
 obtain ⟨⟨t127, t128⟩, A40, H⟩ := H
 replace H : ((ub_.f s0_0 t128 (([0, 1, 31, 32, 1023, 1024, 5000, 9998, 9999] : List Int))).bind fun bt132 => ((ka_.f s0_0 bt132.2 bt132.1 a1).bind fun bt134 => ((bb_.f s0_0 bt134.2 0 31).bind fun bt136 => ((ka_.f s0_0 bt136.2 bt136.1 a1).bind fun bt138 => ((bb_.f s0_0 bt138.2 0 31).bind fun bt140 => ((ka_.f s0_0 bt140.2 bt140.1 a1).bind fun bt142 => (some (t127, bt134.1, bt138.1, bt142.1, bt142.2)))))))) = some (r1, r2, r3, r4, r5) := H
 have A4 := ba_.mk A40
 clear A40
 obtain ⟨y129, hy129⟩ : ∃ y_ : List Int, y_ = (([0, 1, 31, 32, 1023, 1024, 5000, 9998, 9999] : List Int)) := ⟨_, rfl⟩
 replace H : ((ub_.f s0_0 t128 y129).bind fun bt132 => ((ka_.f s0_0 bt132.2 bt132.1 a1).bind fun bt134 => ((bb_.f s0_0 bt134.2 0 31).bind fun bt136 => ((ka_.f s0_0 bt136.2 bt136.1 a1).bind fun bt138 => ((bb_.f s0_0 bt138.2 0 31).bind fun bt140 => ((ka_.f s0_0 bt140.2 bt140.1 a1).bind fun bt142 => (some (t127, bt134.1, bt138.1, bt142.1, bt142.2)))))))) = some (r1, r2, r3, r4, r5) := by first | (rw [hy129]; with_reducible exact H) | (have H2_ := (Option.bind_some _ _).symm.trans H; rw [hy129]; with_reducible exact H2_) | (have H2_ := (Option.bind_some _ _).symm.trans H; with_reducible exact H2_) | with_reducible exact H | (rw [hy129]; exact H) | exact H
 have Ny129 := ba_.mk hy129
 clear hy129
 replace H := Option.bind_eq_some_iff.mp H
 obtain ⟨⟨t132, t133⟩, A50, H⟩ := H
 replace H : ((ka_.f s0_0 t133 t132 a1).bind fun bt134 => ((bb_.f s0_0 bt134.2 0 31).bind fun bt136 => ((ka_.f s0_0 bt136.2 bt136.1 a1).bind fun bt138 => ((bb_.f s0_0 bt138.2 0 31).bind fun bt140 => ((ka_.f s0_0 bt140.2 bt140.1 a1).bind fun bt142 => (some (t127, bt134.1, bt138.1, bt142.1, bt142.2))))))) = some (r1, r2, r3, r4, r5) := H
 have A5 := ba_.mk A50
 clear A50
 replace H := Option.bind_eq_some_iff.mp H
 obtain ⟨⟨t134, t135⟩, A60, H⟩ := H
 replace H : ((bb_.f s0_0 t135 0 31).bind fun bt136 => ((ka_.f s0_0 bt136.2 bt136.1 a1).bind fun bt138 => ((bb_.f s0_0 bt138.2 0 31).bind fun bt140 => ((ka_.f s0_0 bt140.2 bt140.1 a1).bind fun bt142 => (some (t127, t134, bt138.1, bt142.1, bt142.2)))))) = some (r1, r2, r3, r4, r5) := H
 have A6 := ba_.mk A60
 clear A60
 replace H := Option.bind_eq_some_iff.mp H
 obtain ⟨⟨t136, t137⟩, A70, H⟩ := H
 replace H : ((ka_.f s0_0 t137 t136 a1).bind fun bt138 => ((bb_.f s0_0 bt138.2 0 31).bind fun bt140 => ((ka_.f s0_0 bt140.2 bt140.1 a1).bind fun bt142 => (some (t127, t134, bt138.1, bt142.1, bt142.2))))) = some (r1, r2, r3, r4, r5) := H
 have A7 := ba_.mk A70
 clear A70
 replace H := Option.bind_eq_some_iff.mp H
 obtain ⟨⟨t138, t139⟩, A80, H⟩ := H
 replace H : ((bb_.f s0_0 t139 0 31).bind fun bt140 => ((ka_.f s0_0 bt140.2 bt140.1 a1).bind fun bt142 => (some (t127, t134, t138, bt142.1, bt142.2)))) = some (r1, r2, r3, r4, r5) := H
 have A8 := ba_.mk A80
 clear A80
 replace H := Option.bind_eq_some_iff.mp H
 obtain ⟨⟨t140, t141⟩, A90, H⟩ := H
 replace H : ((ka_.f s0_0 t141 t140 a1).bind fun bt142 => (some (t127, t134, t138, bt142.1, bt142.2))) = some (r1, r2, r3, r4, r5) := H
 have A9 := ba_.mk A90
 clear A90
 replace H := Option.bind_eq_some_iff.mp H
 obtain ⟨⟨t142, t143⟩, A100, H⟩ := H
 replace H : (some (t127, t134, t138, t142, t143)) = some (r1, r2, r3, r4, r5) := H
 have A10 := ba_.mk A100
 clear A100
 simp only [Option.some.injEq, Prod.mk.injEq] at H
 obtain ⟨rfl, rfl, rfl, rfl, rfl⟩ := H
 go_enter Tryd.func5, Tryd.ntmps5
 go_wp2_with (first | ((with_reducible refine hc_ (N := 4) rfl ?_); refine ed_ ?hg (N := 4) ?hd (cs := #[.int .i64 0, .int .i64 0, .int .i64 0, .int .i64 0]) (t := 26) ?hr ?_; (case hd => rfl); (case hg => rfl); (case hr => first | (go_simp; done) | (go_simp; rfl)); intro gb124 hg w11 hbox hb; have n0_ := ba_.mk (ma_.below (by repeat (first | (with_reducible first | exact HI0.out | apply ma_.alloc | apply ma_.drewN | apply ma_.drew | apply ma_.od_) | exact HI0.out)) hb); have n1_ := ba_.mk (ib_.trans (by repeat (first | (with_reducible first | exact HK.out | apply ib_.set_ | apply cc_ | apply ic_ | apply bc_) | exact HK.out)) (ib_.xg_ hb g none) (.inl rfl)); have n2_ := ba_.mk (pa_ (by repeat (first | (with_reducible first | exact HB.out | apply da_ | apply aa_ | apply ca_ | refine ia_ ?_ (ma_.ge HI0.out)) | exact HB.out)) hb); have n3_ := ba_.mk (hbox); have n4_ := ba_.mk ((by rw [hg]; exact (wg_ (w := w) (g := g) (row := none) (by repeat (first | (with_reducible first | exact HK.out | apply ib_.set_ | apply cc_ | apply ic_ | apply bc_) | exact HK.out))) : w.heap.size ≤ gb124)); have n5_ := ba_.mk ((Nat.le_trans HW0.out (by rw [hg]; exact (wg_ (w := w) (g := g) (row := none) (by repeat (first | (with_reducible first | exact HK.out | apply ib_.set_ | apply cc_ | apply ic_ | apply bc_) | exact HK.out))) : w.heap.size ≤ gb124) : w0.heap.size ≤ gb124)); have n6_ := ba_.mk ((by rw [hg]; exact Nat.ne_of_lt (ma_.lt (show ma_ w0 _ g s0_0 s0_1 from by repeat (first | (with_reducible first | exact HI0.out | apply ma_.alloc | apply ma_.drewN | apply ma_.drew | apply ma_.od_) | exact HI0.out))) : g ≠ gb124)); have n7_ := ba_.mk ((by rw [hg]; exact Nat.ne_of_gt (ma_.lt (show ma_ w0 _ g s0_0 s0_1 from by repeat (first | (with_reducible first | exact HI0.out | apply ma_.alloc | apply ma_.drewN | apply ma_.drew | apply ma_.od_) | exact HI0.out))) : gb124 ≠ g)); clear HI0; clear HK; clear HB; have HI0 := n0_; have HK := n1_; have HB := n2_; have BK124 := n3_; have GW124 := n4_; have GE124 := n5_; have NB0_124 := n6_; have NB124_0 := n7_; clear n0_ n1_ n2_ n3_ n4_ n5_ n6_ n7_; clear hb hbox hg) | ((with_reducible refine la_ (f := 13) rfl ?_); refine wb_ (some 7) rfl rfl Tryd.func13 (by kernel_rfl) rfl #[.pointer (some ⟨g, 0, none⟩), .int .i64 0, .int .i64 31] rfl (by (try simp only [List.map_toArray, List.map_cons, List.map_nil]); first | done | rfl | (simp only [List.length_drop, List.length_take]; rfl)) ?_; (with_reducible refine (bb_.calls g s0_0 s0_1 0 31 t125 t126 w0 _ ?side1 ?side2 A3.out).mono ?_); (case side1 => repeat (first | (with_reducible first | exact HI0.out | apply ma_.alloc | apply ma_.drewN | apply ma_.drew | apply ma_.od_ | refine ma_.far ?_ NB0_124.out _) | exact HI0.out)); (case side2 => repeat (first | (with_reducible first | exact HB.out | apply da_ | apply aa_ | apply ca_ | refine ia_ ?_ (ma_.ge HI0.out) | refine ia_ ?_ GE124.out) | exact HB.out)); rintro e w12 ⟨rfl, hi, hb, hk⟩; refine ⟨_, rfl, ?_⟩; have n0_ := ba_.mk (ib_.blk hk (g' := gb124) (o := .cells #[.int .i64 0, .int .i64 0, .int .i64 0, .int .i64 0] 26 (0, 0)) (by (with_reducible repeat (first | refine ra_ ?_ _ | refine ab_ ?_ | refine qa_ ?_ _)); exact BK124.out) NB124_0.out (by simp)); have n1_ := ba_.mk (ib_.trans (by repeat (first | (with_reducible first | exact HK.out | apply ib_.set_ | apply cc_ | apply ic_ | apply bc_ | refine je_ ?_ GW124.out _) | exact HK.out)) hk (.inl rfl)); have n2_ := ba_.mk (hb); have n3_ := ba_.mk (hi); clear BK124; clear HK; clear HB; clear HI0; have BK124 := n0_; have HK := n1_; have HB := n2_; have HI0 := n3_; clear n0_ n1_ n2_ n3_; (try clear hb); (try clear hb2); (try clear hk); (try clear hi)) | ((with_reducible refine la_ (f := 12) rfl ?_); refine wb_ (some 9) rfl rfl Tryd.func12 (by kernel_rfl) rfl #[.pointer (some ⟨g, 0, none⟩), .int .i64 t125, .int .i64 a1] rfl (by (try simp only [List.map_toArray, List.map_cons, List.map_nil]); first | done | rfl | (simp only [List.length_drop, List.length_take]; rfl)) ?_; (with_reducible refine (ka_.calls g s0_0 t126 t125 a1 t127 t128 w0 _ ?side1 ?side2 A4.out).mono ?_); (case side1 => repeat (first | (with_reducible first | exact HI0.out | apply ma_.alloc | apply ma_.drewN | apply ma_.drew | apply ma_.od_ | refine ma_.far ?_ NB0_124.out _) | exact HI0.out)); (case side2 => repeat (first | (with_reducible first | exact HB.out | apply da_ | apply aa_ | apply ca_ | refine ia_ ?_ (ma_.ge HI0.out) | refine ia_ ?_ GE124.out) | exact HB.out)); rintro e w13 ⟨rfl, hi, hb, hk⟩; refine ⟨_, rfl, ?_⟩; have n0_ := ba_.mk (ib_.blk hk (g' := gb124) (o := .cells #[.int .i64 0, .int .i64 0, .int .i64 0, .int .i64 0] 26 (0, 0)) (by (with_reducible repeat (first | refine ra_ ?_ _ | refine ab_ ?_ | refine qa_ ?_ _)); exact BK124.out) NB124_0.out (by simp)); have n1_ := ba_.mk (ib_.trans (by repeat (first | (with_reducible first | exact HK.out | apply ib_.set_ | apply cc_ | apply ic_ | apply bc_ | refine je_ ?_ GW124.out _) | exact HK.out)) hk (.inl rfl)); have n2_ := ba_.mk (hb); have n3_ := ba_.mk (hi); clear BK124; clear HK; clear HB; clear HI0; have BK124 := n0_; have HK := n1_; have HB := n2_; have HI0 := n3_; clear n0_ n1_ n2_ n3_; (try clear hb); (try clear hb2); (try clear hk); (try clear hi)) | ((with_reducible refine hc_ (N := 12) rfl ?_); refine Kd.ai_ (Kd.int .i64) _ 3 ?hg (N := 12) ?hd (xs := ([0, 1, 31, 32, 1023, 1024, 5000, 9998, 9999] : List Int)) (inner := [.int .i64 0, .int .i64 1, .int .i64 31, .int .i64 32, .int .i64 1023, .int .i64 1024, .int .i64 5000, .int .i64 9998, .int .i64 9999]) (ok := fun _ => True) (okp := fun _ => True) ?hr ?hp (fun _ hk => hk) trivial (Below.refl _ _) (Nat.le_refl _) (by simp) ?_; (case hd => rfl); (case hg => rfl); (case hr => first | (go_simp; done) | (go_simp; rfl)); (case hp => exact (Reps.one (show Kd.M (Kd.int .i64) _ _ _ 0 [.int .i64 0] from rfl) (Reps.one (show Kd.M (Kd.int .i64) _ _ _ 1 [.int .i64 1] from rfl) (Reps.one (show Kd.M (Kd.int .i64) _ _ _ 31 [.int .i64 31] from rfl) (Reps.one (show Kd.M (Kd.int .i64) _ _ _ 32 [.int .i64 32] from rfl) (Reps.one (show Kd.M (Kd.int .i64) _ _ _ 1023 [.int .i64 1023] from rfl) (Reps.one (show Kd.M (Kd.int .i64) _ _ _ 1024 [.int .i64 1024] from rfl) (Reps.one (show Kd.M (Kd.int .i64) _ _ _ 5000 [.int .i64 5000] from rfl) (Reps.one (show Kd.M (Kd.int .i64) _ _ _ 9998 [.int .i64 9998] from rfl) (Reps.one (show Kd.M (Kd.int .i64) _ _ _ 9999 [.int .i64 9999] from rfl) (Reps.none _ _))))))))))); intro v130 w14 ho15 hb hg_ hnew_; clear hg_ hnew_; (first | rw [← Ny129.out] at ho15 | (simp only [Int.reduceToNat] at ho15; rw [← Ny129.out] at ho15)); have n0_ := ba_.mk (Kd.wc_ ho15 (wg_ (w := w) (g := g) (row := none) (by repeat (first | (with_reducible first | exact HK.out | apply ib_.set_ | apply cc_ | apply ic_ | apply bc_ | refine je_ ?_ GW124.out _) | exact HK.out)))); have n1_ := ba_.mk (ma_.below (by repeat (first | (with_reducible first | exact HI0.out | apply ma_.alloc | apply ma_.drewN | apply ma_.drew | apply ma_.od_ | refine ma_.far ?_ NB0_124.out _) | exact HI0.out)) hb); have n2_ := ba_.mk (zb_ (g := gb124) (o := .cells #[.int .i64 0, .int .i64 0, .int .i64 0, .int .i64 0] 26 (0, 0)) (by (with_reducible repeat (first | refine ra_ ?_ _ | refine ab_ ?_ | refine qa_ ?_ _)); exact BK124.out) hb); have n3_ := ba_.mk (ib_.trans (by repeat (first | (with_reducible first | exact HK.out | apply ib_.set_ | apply cc_ | apply ic_ | apply bc_ | refine je_ ?_ GW124.out _) | exact HK.out)) (ib_.xg_ hb g none) (.inl rfl)); have n4_ := ba_.mk (pa_ (by repeat (first | (with_reducible first | exact HB.out | apply da_ | apply aa_ | apply ca_ | refine ia_ ?_ (ma_.ge HI0.out) | refine ia_ ?_ GE124.out) | exact HB.out)) hb); clear HI0; clear BK124; clear HK; clear HB; have HO131 := n0_; have HI0 := n1_; have BK124 := n2_; have HK := n3_; have HB := n4_; clear n0_ n1_ n2_ n3_ n4_; clear hb ho15; obtain ⟨Ao16, co16, eo16⟩ := Kd.nc_ HO131.out; subst eo16) | ((with_reducible refine la_ (f := 14) rfl ?_); refine wb_ (some 13) rfl rfl Tryd.func14 (by kernel_rfl) rfl #[.pointer (some ⟨g, 0, none⟩), .slice Ao16 y129.length co16] rfl (by (try simp only [List.map_toArray, List.map_cons, List.map_nil]); first | done | rfl | (simp only [List.length_drop, List.length_take]; rfl)) ?_; (with_reducible refine (ub_.calls g s0_0 t128 _ _ y129 t132 t133 w0 _ ?side1 ?side2 ?side3 ?side4 ?side5 A5.out).mono ?_); (case side1 => repeat (first | (with_reducible first | exact HI0.out | apply ma_.alloc | apply ma_.drewN | apply ma_.drew | apply ma_.od_ | refine ma_.far ?_ NB0_124.out _) | exact HI0.out)); (case side2 => repeat (first | (with_reducible first | exact HB.out | apply da_ | apply aa_ | apply ca_ | refine ia_ ?_ (ma_.ge HI0.out) | refine ia_ ?_ GE124.out) | exact HB.out)); (case side3 => repeat (first | exact (Kd.lb_ HO131.out).2.2 | (with_reducible refine Kd.zc_ ?_ _) | (with_reducible refine Kd.ad_ ?_ _) | (with_reducible refine Kd.md_ ?_))); (case side4 => exact (Kd.lb_ HO131.out).2.1); (case side5 => exact sk_ (ma_.nj_ HI0.out HO131.out (by decide))); rintro e w17 ⟨rfl, hi, hb, hk⟩; refine ⟨_, rfl, ?_⟩; have n0_ := ba_.mk (ib_.blk hk (g' := gb124) (o := .cells #[.int .i64 0, .int .i64 0, .int .i64 0, .int .i64 0] 26 (0, 0)) (by (with_reducible repeat (first | refine ra_ ?_ _ | refine ab_ ?_ | refine qa_ ?_ _)); exact BK124.out) NB124_0.out (by simp)); have n1_ := ba_.mk (Kd.uc_ (Kd.zh_ (ma_.apart (show ma_ w0 _ g s0_0 t128 from by repeat (first | (with_reducible first | exact HI0.out | apply ma_.alloc | apply ma_.drewN | apply ma_.drew | apply ma_.od_ | refine ma_.far ?_ NB0_124.out _) | exact HI0.out)) (by (with_reducible repeat (first | apply Kd.ta_ | apply Kd.ua_ | apply Kd.db_)); exact HO131.out) (by decide)) hk (fun _ h => h.2)) (fun _ h => h.1)); have n2_ := ba_.mk (ib_.trans (by repeat (first | (with_reducible first | exact HK.out | apply ib_.set_ | apply cc_ | apply ic_ | apply bc_ | refine je_ ?_ GW124.out _) | exact HK.out)) hk (.inl rfl)); have n3_ := ba_.mk (hb); have n4_ := ba_.mk (hi); clear BK124; clear HO131; clear HK; clear HB; clear HI0; have BK124 := n0_; have HO131 := n1_; have HK := n2_; have HB := n3_; have HI0 := n4_; clear n0_ n1_ n2_ n3_ n4_; (try clear hb); (try clear hb2); (try clear hk); (try clear hi)) | ((with_reducible refine la_ (f := 12) rfl ?_); refine wb_ (some 15) rfl rfl Tryd.func12 (by kernel_rfl) rfl #[.pointer (some ⟨g, 0, none⟩), .int .i64 t132, .int .i64 a1] rfl (by (try simp only [List.map_toArray, List.map_cons, List.map_nil]); first | done | rfl | (simp only [List.length_drop, List.length_take]; rfl)) ?_; (with_reducible refine (ka_.calls g s0_0 t133 t132 a1 t134 t135 w0 _ ?side1 ?side2 A6.out).mono ?_); (case side1 => repeat (first | (with_reducible first | exact HI0.out | apply ma_.alloc | apply ma_.drewN | apply ma_.drew | apply ma_.od_ | refine ma_.far ?_ NB0_124.out _) | exact HI0.out)); (case side2 => repeat (first | (with_reducible first | exact HB.out | apply da_ | apply aa_ | apply ca_ | refine ia_ ?_ (ma_.ge HI0.out) | refine ia_ ?_ GE124.out) | exact HB.out)); rintro e w18 ⟨rfl, hi, hb, hk⟩; refine ⟨_, rfl, ?_⟩; have n0_ := ba_.mk (ib_.blk hk (g' := gb124) (o := .cells #[.int .i64 0, .int .i64 0, .int .i64 0, .int .i64 0] 26 (0, 0)) (by (with_reducible repeat (first | refine ra_ ?_ _ | refine ab_ ?_ | refine qa_ ?_ _)); exact BK124.out) NB124_0.out (by simp)); have n1_ := ba_.mk (Kd.uc_ (Kd.zh_ (ma_.apart (show ma_ w0 _ g s0_0 t133 from by repeat (first | (with_reducible first | exact HI0.out | apply ma_.alloc | apply ma_.drewN | apply ma_.drew | apply ma_.od_ | refine ma_.far ?_ NB0_124.out _) | exact HI0.out)) (by (with_reducible repeat (first | apply Kd.ta_ | apply Kd.ua_ | apply Kd.db_)); exact HO131.out) (by decide)) hk (fun _ h => h.2)) (fun _ h => h.1)); have n2_ := ba_.mk (ib_.trans (by repeat (first | (with_reducible first | exact HK.out | apply ib_.set_ | apply cc_ | apply ic_ | apply bc_ | refine je_ ?_ GW124.out _) | exact HK.out)) hk (.inl rfl)); have n3_ := ba_.mk (hb); have n4_ := ba_.mk (hi); clear BK124; clear HO131; clear HK; clear HB; clear HI0; have BK124 := n0_; have HO131 := n1_; have HK := n2_; have HB := n3_; have HI0 := n4_; clear n0_ n1_ n2_ n3_ n4_; (try clear hb); (try clear hb2); (try clear hk); (try clear hi)) | ((with_reducible refine la_ (f := 13) rfl ?_); refine wb_ (some 18) rfl rfl Tryd.func13 (by kernel_rfl) rfl #[.pointer (some ⟨g, 0, none⟩), .int .i64 0, .int .i64 31] rfl (by (try simp only [List.map_toArray, List.map_cons, List.map_nil]); first | done | rfl | (simp only [List.length_drop, List.length_take]; rfl)) ?_; (with_reducible refine (bb_.calls g s0_0 t135 0 31 t136 t137 w0 _ ?side1 ?side2 A7.out).mono ?_); (case side1 => repeat (first | (with_reducible first | exact HI0.out | apply ma_.alloc | apply ma_.drewN | apply ma_.drew | apply ma_.od_ | refine ma_.far ?_ NB0_124.out _) | exact HI0.out)); (case side2 => repeat (first | (with_reducible first | exact HB.out | apply da_ | apply aa_ | apply ca_ | refine ia_ ?_ (ma_.ge HI0.out) | refine ia_ ?_ GE124.out) | exact HB.out)); rintro e w19 ⟨rfl, hi, hb, hk⟩; refine ⟨_, rfl, ?_⟩; have n0_ := ba_.mk (ib_.blk hk (g' := gb124) (o := .cells #[.int .i64 0, .int .i64 0, .int .i64 0, .int .i64 0] 26 (0, 0)) (by (with_reducible repeat (first | refine ra_ ?_ _ | refine ab_ ?_ | refine qa_ ?_ _)); exact BK124.out) NB124_0.out (by simp)); have n1_ := ba_.mk (Kd.uc_ (Kd.zh_ (ma_.apart (show ma_ w0 _ g s0_0 t135 from by repeat (first | (with_reducible first | exact HI0.out | apply ma_.alloc | apply ma_.drewN | apply ma_.drew | apply ma_.od_ | refine ma_.far ?_ NB0_124.out _) | exact HI0.out)) (by (with_reducible repeat (first | apply Kd.ta_ | apply Kd.ua_ | apply Kd.db_)); exact HO131.out) (by decide)) hk (fun _ h => h.2)) (fun _ h => h.1)); have n2_ := ba_.mk (ib_.trans (by repeat (first | (with_reducible first | exact HK.out | apply ib_.set_ | apply cc_ | apply ic_ | apply bc_ | refine je_ ?_ GW124.out _) | exact HK.out)) hk (.inl rfl)); have n3_ := ba_.mk (hb); have n4_ := ba_.mk (hi); clear BK124; clear HO131; clear HK; clear HB; clear HI0; have BK124 := n0_; have HO131 := n1_; have HK := n2_; have HB := n3_; have HI0 := n4_; clear n0_ n1_ n2_ n3_ n4_; (try clear hb); (try clear hb2); (try clear hk); (try clear hi)) | ((with_reducible refine la_ (f := 12) rfl ?_); refine wb_ (some 20) rfl rfl Tryd.func12 (by kernel_rfl) rfl #[.pointer (some ⟨g, 0, none⟩), .int .i64 t136, .int .i64 a1] rfl (by (try simp only [List.map_toArray, List.map_cons, List.map_nil]); first | done | rfl | (simp only [List.length_drop, List.length_take]; rfl)) ?_; (with_reducible refine (ka_.calls g s0_0 t137 t136 a1 t138 t139 w0 _ ?side1 ?side2 A8.out).mono ?_); (case side1 => repeat (first | (with_reducible first | exact HI0.out | apply ma_.alloc | apply ma_.drewN | apply ma_.drew | apply ma_.od_ | refine ma_.far ?_ NB0_124.out _) | exact HI0.out)); (case side2 => repeat (first | (with_reducible first | exact HB.out | apply da_ | apply aa_ | apply ca_ | refine ia_ ?_ (ma_.ge HI0.out) | refine ia_ ?_ GE124.out) | exact HB.out)); rintro e w20 ⟨rfl, hi, hb, hk⟩; refine ⟨_, rfl, ?_⟩; have n0_ := ba_.mk (ib_.blk hk (g' := gb124) (o := .cells #[.int .i64 0, .int .i64 0, .int .i64 0, .int .i64 0] 26 (0, 0)) (by (with_reducible repeat (first | refine ra_ ?_ _ | refine ab_ ?_ | refine qa_ ?_ _)); exact BK124.out) NB124_0.out (by simp)); have n1_ := ba_.mk (Kd.uc_ (Kd.zh_ (ma_.apart (show ma_ w0 _ g s0_0 t137 from by repeat (first | (with_reducible first | exact HI0.out | apply ma_.alloc | apply ma_.drewN | apply ma_.drew | apply ma_.od_ | refine ma_.far ?_ NB0_124.out _) | exact HI0.out)) (by (with_reducible repeat (first | apply Kd.ta_ | apply Kd.ua_ | apply Kd.db_)); exact HO131.out) (by decide)) hk (fun _ h => h.2)) (fun _ h => h.1)); have n2_ := ba_.mk (ib_.trans (by repeat (first | (with_reducible first | exact HK.out | apply ib_.set_ | apply cc_ | apply ic_ | apply bc_ | refine je_ ?_ GW124.out _) | exact HK.out)) hk (.inl rfl)); have n3_ := ba_.mk (hb); have n4_ := ba_.mk (hi); clear BK124; clear HO131; clear HK; clear HB; clear HI0; have BK124 := n0_; have HO131 := n1_; have HK := n2_; have HB := n3_; have HI0 := n4_; clear n0_ n1_ n2_ n3_ n4_; (try clear hb); (try clear hb2); (try clear hk); (try clear hi)) | ((with_reducible refine la_ (f := 13) rfl ?_); refine wb_ (some 23) rfl rfl Tryd.func13 (by kernel_rfl) rfl #[.pointer (some ⟨g, 0, none⟩), .int .i64 0, .int .i64 31] rfl (by (try simp only [List.map_toArray, List.map_cons, List.map_nil]); first | done | rfl | (simp only [List.length_drop, List.length_take]; rfl)) ?_; (with_reducible refine (bb_.calls g s0_0 t139 0 31 t140 t141 w0 _ ?side1 ?side2 A9.out).mono ?_); (case side1 => repeat (first | (with_reducible first | exact HI0.out | apply ma_.alloc | apply ma_.drewN | apply ma_.drew | apply ma_.od_ | refine ma_.far ?_ NB0_124.out _) | exact HI0.out)); (case side2 => repeat (first | (with_reducible first | exact HB.out | apply da_ | apply aa_ | apply ca_ | refine ia_ ?_ (ma_.ge HI0.out) | refine ia_ ?_ GE124.out) | exact HB.out)); rintro e w21 ⟨rfl, hi, hb, hk⟩; refine ⟨_, rfl, ?_⟩; have n0_ := ba_.mk (ib_.blk hk (g' := gb124) (o := .cells #[.int .i64 0, .int .i64 0, .int .i64 0, .int .i64 0] 26 (0, 0)) (by (with_reducible repeat (first | refine ra_ ?_ _ | refine ab_ ?_ | refine qa_ ?_ _)); exact BK124.out) NB124_0.out (by simp)); have n1_ := ba_.mk (Kd.uc_ (Kd.zh_ (ma_.apart (show ma_ w0 _ g s0_0 t139 from by repeat (first | (with_reducible first | exact HI0.out | apply ma_.alloc | apply ma_.drewN | apply ma_.drew | apply ma_.od_ | refine ma_.far ?_ NB0_124.out _) | exact HI0.out)) (by (with_reducible repeat (first | apply Kd.ta_ | apply Kd.ua_ | apply Kd.db_)); exact HO131.out) (by decide)) hk (fun _ h => h.2)) (fun _ h => h.1)); have n2_ := ba_.mk (ib_.trans (by repeat (first | (with_reducible first | exact HK.out | apply ib_.set_ | apply cc_ | apply ic_ | apply bc_ | refine je_ ?_ GW124.out _) | exact HK.out)) hk (.inl rfl)); have n3_ := ba_.mk (hb); have n4_ := ba_.mk (hi); clear BK124; clear HO131; clear HK; clear HB; clear HI0; have BK124 := n0_; have HO131 := n1_; have HK := n2_; have HB := n3_; have HI0 := n4_; clear n0_ n1_ n2_ n3_ n4_; (try clear hb); (try clear hb2); (try clear hk); (try clear hi)) | ((with_reducible refine la_ (f := 12) rfl ?_); refine wb_ (some 25) rfl rfl Tryd.func12 (by kernel_rfl) rfl #[.pointer (some ⟨g, 0, none⟩), .int .i64 t140, .int .i64 a1] rfl (by (try simp only [List.map_toArray, List.map_cons, List.map_nil]); first | done | rfl | (simp only [List.length_drop, List.length_take]; rfl)) ?_; (with_reducible refine (ka_.calls g s0_0 t141 t140 a1 t142 t143 w0 _ ?side1 ?side2 A10.out).mono ?_); (case side1 => repeat (first | (with_reducible first | exact HI0.out | apply ma_.alloc | apply ma_.drewN | apply ma_.drew | apply ma_.od_ | refine ma_.far ?_ NB0_124.out _) | exact HI0.out)); (case side2 => repeat (first | (with_reducible first | exact HB.out | apply da_ | apply aa_ | apply ca_ | refine ia_ ?_ (ma_.ge HI0.out) | refine ia_ ?_ GE124.out) | exact HB.out)); rintro e w22 ⟨rfl, hi, hb, hk⟩; refine ⟨_, rfl, ?_⟩; have n0_ := ba_.mk (ib_.blk hk (g' := gb124) (o := .cells #[.int .i64 0, .int .i64 0, .int .i64 0, .int .i64 0] 26 (0, 0)) (by (with_reducible repeat (first | refine ra_ ?_ _ | refine ab_ ?_ | refine qa_ ?_ _)); exact BK124.out) NB124_0.out (by simp)); have n1_ := ba_.mk (Kd.uc_ (Kd.zh_ (ma_.apart (show ma_ w0 _ g s0_0 t141 from by repeat (first | (with_reducible first | exact HI0.out | apply ma_.alloc | apply ma_.drewN | apply ma_.drew | apply ma_.od_ | refine ma_.far ?_ NB0_124.out _) | exact HI0.out)) (by (with_reducible repeat (first | apply Kd.ta_ | apply Kd.ua_ | apply Kd.db_)); exact HO131.out) (by decide)) hk (fun _ h => h.2)) (fun _ h => h.1)); have n2_ := ba_.mk (ib_.trans (by repeat (first | (with_reducible first | exact HK.out | apply ib_.set_ | apply cc_ | apply ic_ | apply bc_ | refine je_ ?_ GW124.out _) | exact HK.out)) hk (.inl rfl)); have n3_ := ba_.mk (hb); have n4_ := ba_.mk (hi); clear BK124; clear HO131; clear HK; clear HB; clear HI0; have BK124 := n0_; have HO131 := n1_; have HK := n2_; have HB := n3_; have HI0 := n4_; clear n0_ n1_ n2_ n3_ n4_; (try clear hb); (try clear hb2); (try clear hk); (try clear hi); have hnb23 := NB124_0.out; have hnc23 := NB0_124.out; have hcz24_0 : w22.cell? ⟨gb124, 0, none⟩ = some (.int .i64 0) := (ga_ BK124.out 0).trans rfl; have hcz24_1 : w22.cell? ⟨gb124, 1, none⟩ = some (.int .i64 0) := (ga_ BK124.out 1).trans rfl; have hcz24_2 : w22.cell? ⟨gb124, 2, none⟩ = some (.int .i64 0) := (ga_ BK124.out 2).trans rfl; have hcz24_3 : w22.cell? ⟨gb124, 3, none⟩ = some (.int .i64 0) := (ga_ BK124.out 3).trans rfl; have hfz24_0 := ha_ BK124.out 0; have hfz24_1 := ha_ BK124.out 1; have hfz24_2 := ha_ BK124.out 2; have hfz24_3 := ha_ BK124.out 3))
 refine bodyPost_ret (results_cell_row rfl _ _ gb124 26 #[.int .i64 t127, .int .i64 t134, .int .i64 t138, .int .i64 t142] (0, 0) _ rfl (by (with_reducible repeat (first | refine ra_ ?_ _ | refine ab_ ?_ | refine qa_ ?_ _)); refine oc_ (cs := #[.int .i64 t127, .int .i64 t134, .int .i64 t138, .int .i64 0]) ?_ 3 _ rfl; (with_reducible repeat (first | refine ra_ ?_ _ | refine ab_ ?_ | refine qa_ ?_ _)); refine oc_ (cs := #[.int .i64 t127, .int .i64 t134, .int .i64 0, .int .i64 0]) ?_ 2 _ rfl; (with_reducible repeat (first | refine ra_ ?_ _ | refine ab_ ?_ | refine qa_ ?_ _)); refine oc_ (cs := #[.int .i64 t127, .int .i64 0, .int .i64 0, .int .i64 0]) ?_ 1 _ rfl; (with_reducible repeat (first | refine ra_ ?_ _ | refine ab_ ?_ | refine qa_ ?_ _)); refine oc_ (cs := #[.int .i64 0, .int .i64 0, .int .i64 0, .int .i64 0]) ?_ 0 _ rfl; (with_reducible repeat (first | refine ra_ ?_ _ | refine ab_ ?_ | refine qa_ ?_ _)); exact BK124.out) Tryd.underlying26 rfl (by kernel_rfl)) rfl ?_
 exact ⟨by first | rfl | (simp [xa_, ya_] <;> rfl) | (simp [*, xa_, ya_] <;> rfl), by repeat (first | (with_reducible first | exact HI0.out | apply ma_.alloc | apply ma_.drewN | apply ma_.drew | apply ma_.od_ | refine ma_.far ?_ NB0_124.out _) | exact HI0.out), by repeat (first | (with_reducible first | exact HB.out | apply da_ | apply aa_ | apply ca_ | refine ia_ ?_ (ma_.ge HI0.out) | refine ia_ ?_ GE124.out) | exact HB.out), by repeat (first | (with_reducible first | exact HK.out | apply ib_.set_ | apply cc_ | apply ic_ | apply bc_ | refine je_ ?_ GW124.out _) | exact HK.out)⟩
def sa_.f (a0 : Int) (a1 : Int) : Option (Bool) := if a0 ≥ 0 then (some (decide (a0 ≤ a1))) else (some false)
set_option maxHeartbeats 8000000 in
set_option maxRecDepth 100000 in
theorem sa_.calls (a0 : Int) (a1 : Int) (r : Bool) (w : World) (h : sa_.f a0 a1 = some r) :
  Calls Tryd.prog 17 #[.int .i64 a0, .int .i64 a1] w fun e w' => e = .returned (.bool r) ∧ gb_ w w' := by
 have H : (if a0 ≥ 0 then (some (decide (a0 ≤ a1))) else (some false)) = some r := h
 clear h
 by_cases c3 : a0 ≥ 0
 ·rw [if_pos c3] at H
  have c3b0 : decide (0 ≤ a0) = true := decide_eq_true c3
  clear c3
  obtain rfl := Option.some.inj H
  go_enter Tryd.func17, Tryd.ntmps17
  go_wp2
  go_ret
  exact ⟨by first | rfl | (simp; done) | (simp [*]; done), by repeat (first | exact gb_.refl _ | apply gb_.step)⟩
 ·rw [if_neg c3] at H
  have c3b0 : decide (0 ≤ a0) = false := decide_eq_false c3
  clear c3
  obtain rfl := Option.some.inj H
  go_enter Tryd.func17, Tryd.ntmps17
  go_wp2
  go_ret
  exact ⟨by first | rfl | (simp; done) | (simp [*]; done), by repeat (first | exact gb_.refl _ | apply gb_.step)⟩
def na_.f (a0_0 : Int) (a0_1 : Int) (a0_2 : Int) (a0_3 : Int) : Option (Bool) := (sa_.f a0_0 31).bind fun t145 => (if t145 = true then ((sa_.f a0_2 31).bind fun t146 => (if t146 = true then ((sa_.f a0_3 31).bind fun t147 => (if t147 = true then ((sa_.f a0_1 9999).bind fun t148 => (some t148)) else (some false))) else (some false))) else (some false))
set_option maxHeartbeats 8000000 in
set_option maxRecDepth 100000 in
theorem na_.calls (a0_0 : Int) (a0_1 : Int) (a0_2 : Int) (a0_3 : Int) (r : Bool) (w : World) (h : na_.f a0_0 a0_1 a0_2 a0_3 = some r) :
  Calls Tryd.prog 10 #[.agg #[.int .i64 a0_0, .int .i64 a0_1, .int .i64 a0_2, .int .i64 a0_3]] w fun e w' => e = .returned (.bool r) ∧ Below w.heap.size w w' := by
 have hu26 := Tryd.underlying26
 have HB := ba_.mk (Below.refl w.heap.size w)
 have H : ((sa_.f a0_0 31).bind fun t145 => (if t145 = true then ((sa_.f a0_2 31).bind fun t146 => (if t146 = true then ((sa_.f a0_3 31).bind fun t147 => (if t147 = true then ((sa_.f a0_1 9999).bind fun t148 => (some t148)) else (some false))) else (some false))) else (some false))) = some r := h
 clear h
 replace H := Option.bind_eq_some_iff.mp H
 obtain ⟨t145, A20, H⟩ := H
 replace H : (if t145 = true then ((sa_.f a0_2 31).bind fun t146 => (if t146 = true then ((sa_.f a0_3 31).bind fun t147 => (if t147 = true then ((sa_.f a0_1 9999).bind fun t148 => (some t148)) else (some false))) else (some false))) else (some false)) = some r := H
 have A2 := ba_.mk A20
 clear A20
 by_cases c3 : t145 = true
 ·subst c3
  have H1 : ((sa_.f a0_2 31).bind fun t146 => (if t146 = true then ((sa_.f a0_3 31).bind fun t147 => (if t147 = true then ((sa_.f a0_1 9999).bind fun t148 => (some t148)) else (some false))) else (some false))) = some r := by rw [if_pos rfl] at H; exact H
  clear H
  have H := H1
  clear H1
  replace H := Option.bind_eq_some_iff.mp H
  obtain ⟨t146, A40, H⟩ := H
  replace H : (if t146 = true then ((sa_.f a0_3 31).bind fun t147 => (if t147 = true then ((sa_.f a0_1 9999).bind fun t148 => (some t148)) else (some false))) else (some false)) = some r := H
  have A4 := ba_.mk A40
  clear A40
  by_cases c5 : t146 = true
  ·subst c5
   have H1 : ((sa_.f a0_3 31).bind fun t147 => (if t147 = true then ((sa_.f a0_1 9999).bind fun t148 => (some t148)) else (some false))) = some r := by rw [if_pos rfl] at H; exact H
   clear H
   have H := H1
   clear H1
   replace H := Option.bind_eq_some_iff.mp H
   obtain ⟨t147, A60, H⟩ := H
   replace H : (if t147 = true then ((sa_.f a0_1 9999).bind fun t148 => (some t148)) else (some false)) = some r := H
   have A6 := ba_.mk A60
   clear A60
   by_cases c7 : t147 = true
   ·subst c7
    have H1 : ((sa_.f a0_1 9999).bind fun t148 => (some t148)) = some r := by rw [if_pos rfl] at H; exact H
    clear H
    have H := H1
    clear H1
    replace H := Option.bind_eq_some_iff.mp H
    obtain ⟨t148, A80, H⟩ := H
    replace H : (some t148) = some r := H
    have A8 := ba_.mk A80
    clear A80
    obtain rfl := Option.some.inj H
    go_enter Tryd.func10, Tryd.ntmps10
    go_wp2_with (first | ((with_reducible refine hc_ (N := 1) rfl ?_); refine ed_ ?hg (N := 1) ?hd (cs := #[.int .i64 a0_0, .int .i64 a0_1, .int .i64 a0_2, .int .i64 a0_3]) (t := 26) ?hr ?_; (case hd => rfl); (case hg => rfl); (case hr => first | (go_simp; done) | (go_simp; rfl)); intro gb144 hg w9 hbox hb; have n0_ := ba_.mk (pa_ (by repeat (first | (with_reducible first | exact HB.out | apply da_ | apply aa_ | apply ca_) | exact HB.out)) hb); have n1_ := ba_.mk (hbox); have n2_ := ba_.mk ((by rw [hg]; exact (wa_ (by repeat (first | (with_reducible first | exact HB.out | apply da_ | apply aa_ | apply ca_) | exact HB.out))) : w.heap.size ≤ gb144)); have n3_ := ba_.mk ((by rw [hg]; exact (wa_ (by repeat (first | (with_reducible first | exact HB.out | apply da_ | apply aa_ | apply ca_) | exact HB.out))) : w.heap.size ≤ gb144)); clear HB; have HB := n0_; have BK144 := n1_; have GW144 := n2_; have GE144 := n3_; clear n0_ n1_ n2_ n3_; clear hb hbox hg; have hcz10_0 : w9.cell? ⟨gb144, 0, none⟩ = some (.int .i64 a0_0) := (ga_ BK144.out 0).trans rfl; have hcz10_1 : w9.cell? ⟨gb144, 1, none⟩ = some (.int .i64 a0_1) := (ga_ BK144.out 1).trans rfl; have hcz10_2 : w9.cell? ⟨gb144, 2, none⟩ = some (.int .i64 a0_2) := (ga_ BK144.out 2).trans rfl; have hcz10_3 : w9.cell? ⟨gb144, 3, none⟩ = some (.int .i64 a0_3) := (ga_ BK144.out 3).trans rfl; have hfz10_0 := ha_ BK144.out 0; have hfz10_1 := ha_ BK144.out 1; have hfz10_2 := ha_ BK144.out 2; have hfz10_3 := ha_ BK144.out 3) | ((with_reducible refine la_ (f := 17) rfl ?_); refine wb_ (some 5) rfl rfl Tryd.func17 (by kernel_rfl) rfl #[.int .i64 a0_0, .int .i64 31] rfl (by (try simp only [List.map_toArray, List.map_cons, List.map_nil]); first | done | rfl | (simp only [List.length_drop, List.length_take]; rfl)) ?_; (with_reducible refine (sa_.calls a0_0 31 true _ A2.out).mono ?_); rintro e w' ⟨rfl, ⟨nd, rfl⟩⟩; refine ⟨_, rfl, ?_⟩) | (go_at_call 17; (with_reducible refine (sa_.calls a0_2 31 true _ A4.out).mono ?_); rintro e w' ⟨rfl, ⟨nd, rfl⟩⟩) | (go_at_call 17; (with_reducible refine (sa_.calls a0_3 31 true _ A6.out).mono ?_); rintro e w' ⟨rfl, ⟨nd, rfl⟩⟩) | (go_at_call 17; (with_reducible refine (sa_.calls a0_1 9999 t148 _ A8.out).mono ?_); rintro e w' ⟨rfl, ⟨nd, rfl⟩⟩))
    go_ret
    exact ⟨by first | rfl | (simp [xa_, ya_] <;> rfl) | (simp [*, xa_, ya_] <;> rfl), by repeat (first | (with_reducible first | exact HB.out | apply da_ | apply aa_ | apply ca_ | refine ia_ ?_ GE144.out) | exact HB.out)⟩
   ·replace c7 := Bool.eq_false_iff.mpr c7
    subst c7
    have H1 : (some false) = some r := by rw [if_neg (show ¬ (false = true) by decide)] at H; exact H
    clear H
    have H := H1
    clear H1
    obtain rfl := Option.some.inj H
    go_enter Tryd.func10, Tryd.ntmps10
    go_wp2_with (first | ((with_reducible refine hc_ (N := 1) rfl ?_); refine ed_ ?hg (N := 1) ?hd (cs := #[.int .i64 a0_0, .int .i64 a0_1, .int .i64 a0_2, .int .i64 a0_3]) (t := 26) ?hr ?_; (case hd => rfl); (case hg => rfl); (case hr => first | (go_simp; done) | (go_simp; rfl)); intro gb144 hg w11 hbox hb; have n0_ := ba_.mk (pa_ (by repeat (first | (with_reducible first | exact HB.out | apply da_ | apply aa_ | apply ca_) | exact HB.out)) hb); have n1_ := ba_.mk (hbox); have n2_ := ba_.mk ((by rw [hg]; exact (wa_ (by repeat (first | (with_reducible first | exact HB.out | apply da_ | apply aa_ | apply ca_) | exact HB.out))) : w.heap.size ≤ gb144)); have n3_ := ba_.mk ((by rw [hg]; exact (wa_ (by repeat (first | (with_reducible first | exact HB.out | apply da_ | apply aa_ | apply ca_) | exact HB.out))) : w.heap.size ≤ gb144)); clear HB; have HB := n0_; have BK144 := n1_; have GW144 := n2_; have GE144 := n3_; clear n0_ n1_ n2_ n3_; clear hb hbox hg; have hcz12_0 : w11.cell? ⟨gb144, 0, none⟩ = some (.int .i64 a0_0) := (ga_ BK144.out 0).trans rfl; have hcz12_1 : w11.cell? ⟨gb144, 1, none⟩ = some (.int .i64 a0_1) := (ga_ BK144.out 1).trans rfl; have hcz12_2 : w11.cell? ⟨gb144, 2, none⟩ = some (.int .i64 a0_2) := (ga_ BK144.out 2).trans rfl; have hcz12_3 : w11.cell? ⟨gb144, 3, none⟩ = some (.int .i64 a0_3) := (ga_ BK144.out 3).trans rfl; have hfz12_0 := ha_ BK144.out 0; have hfz12_1 := ha_ BK144.out 1; have hfz12_2 := ha_ BK144.out 2; have hfz12_3 := ha_ BK144.out 3) | ((with_reducible refine la_ (f := 17) rfl ?_); refine wb_ (some 5) rfl rfl Tryd.func17 (by kernel_rfl) rfl #[.int .i64 a0_0, .int .i64 31] rfl (by (try simp only [List.map_toArray, List.map_cons, List.map_nil]); first | done | rfl | (simp only [List.length_drop, List.length_take]; rfl)) ?_; (with_reducible refine (sa_.calls a0_0 31 true _ A2.out).mono ?_); rintro e w' ⟨rfl, ⟨nd, rfl⟩⟩; refine ⟨_, rfl, ?_⟩) | (go_at_call 17; (with_reducible refine (sa_.calls a0_2 31 true _ A4.out).mono ?_); rintro e w' ⟨rfl, ⟨nd, rfl⟩⟩) | (go_at_call 17; (with_reducible refine (sa_.calls a0_3 31 false _ A6.out).mono ?_); rintro e w' ⟨rfl, ⟨nd, rfl⟩⟩))
    go_ret
    exact ⟨by first | rfl | (simp [xa_, ya_] <;> rfl) | (simp [*, xa_, ya_] <;> rfl), by repeat (first | (with_reducible first | exact HB.out | apply da_ | apply aa_ | apply ca_ | refine ia_ ?_ GE144.out) | exact HB.out)⟩
  ·replace c5 := Bool.eq_false_iff.mpr c5
   subst c5
   have H1 : (some false) = some r := by rw [if_neg (show ¬ (false = true) by decide)] at H; exact H
   clear H
   have H := H1
   clear H1
   obtain rfl := Option.some.inj H
   go_enter Tryd.func10, Tryd.ntmps10
   go_wp2_with (first | ((with_reducible refine hc_ (N := 1) rfl ?_); refine ed_ ?hg (N := 1) ?hd (cs := #[.int .i64 a0_0, .int .i64 a0_1, .int .i64 a0_2, .int .i64 a0_3]) (t := 26) ?hr ?_; (case hd => rfl); (case hg => rfl); (case hr => first | (go_simp; done) | (go_simp; rfl)); intro gb144 hg w13 hbox hb; have n0_ := ba_.mk (pa_ (by repeat (first | (with_reducible first | exact HB.out | apply da_ | apply aa_ | apply ca_) | exact HB.out)) hb); have n1_ := ba_.mk (hbox); have n2_ := ba_.mk ((by rw [hg]; exact (wa_ (by repeat (first | (with_reducible first | exact HB.out | apply da_ | apply aa_ | apply ca_) | exact HB.out))) : w.heap.size ≤ gb144)); have n3_ := ba_.mk ((by rw [hg]; exact (wa_ (by repeat (first | (with_reducible first | exact HB.out | apply da_ | apply aa_ | apply ca_) | exact HB.out))) : w.heap.size ≤ gb144)); clear HB; have HB := n0_; have BK144 := n1_; have GW144 := n2_; have GE144 := n3_; clear n0_ n1_ n2_ n3_; clear hb hbox hg; have hcz14_0 : w13.cell? ⟨gb144, 0, none⟩ = some (.int .i64 a0_0) := (ga_ BK144.out 0).trans rfl; have hcz14_1 : w13.cell? ⟨gb144, 1, none⟩ = some (.int .i64 a0_1) := (ga_ BK144.out 1).trans rfl; have hcz14_2 : w13.cell? ⟨gb144, 2, none⟩ = some (.int .i64 a0_2) := (ga_ BK144.out 2).trans rfl; have hcz14_3 : w13.cell? ⟨gb144, 3, none⟩ = some (.int .i64 a0_3) := (ga_ BK144.out 3).trans rfl; have hfz14_0 := ha_ BK144.out 0; have hfz14_1 := ha_ BK144.out 1; have hfz14_2 := ha_ BK144.out 2; have hfz14_3 := ha_ BK144.out 3) | ((with_reducible refine la_ (f := 17) rfl ?_); refine wb_ (some 5) rfl rfl Tryd.func17 (by kernel_rfl) rfl #[.int .i64 a0_0, .int .i64 31] rfl (by (try simp only [List.map_toArray, List.map_cons, List.map_nil]); first | done | rfl | (simp only [List.length_drop, List.length_take]; rfl)) ?_; (with_reducible refine (sa_.calls a0_0 31 true _ A2.out).mono ?_); rintro e w' ⟨rfl, ⟨nd, rfl⟩⟩; refine ⟨_, rfl, ?_⟩) | (go_at_call 17; (with_reducible refine (sa_.calls a0_2 31 false _ A4.out).mono ?_); rintro e w' ⟨rfl, ⟨nd, rfl⟩⟩))
   go_ret
   exact ⟨by first | rfl | (simp [xa_, ya_] <;> rfl) | (simp [*, xa_, ya_] <;> rfl), by repeat (first | (with_reducible first | exact HB.out | apply da_ | apply aa_ | apply ca_ | refine ia_ ?_ GE144.out) | exact HB.out)⟩
 ·replace c3 := Bool.eq_false_iff.mpr c3
  subst c3
  have H1 : (some false) = some r := by rw [if_neg (show ¬ (false = true) by decide)] at H; exact H
  clear H
  have H := H1
  clear H1
  obtain rfl := Option.some.inj H
  go_enter Tryd.func10, Tryd.ntmps10
  go_wp2_with (first | ((with_reducible refine hc_ (N := 1) rfl ?_); refine ed_ ?hg (N := 1) ?hd (cs := #[.int .i64 a0_0, .int .i64 a0_1, .int .i64 a0_2, .int .i64 a0_3]) (t := 26) ?hr ?_; (case hd => rfl); (case hg => rfl); (case hr => first | (go_simp; done) | (go_simp; rfl)); intro gb144 hg w15 hbox hb; have n0_ := ba_.mk (pa_ (by repeat (first | (with_reducible first | exact HB.out | apply da_ | apply aa_ | apply ca_) | exact HB.out)) hb); have n1_ := ba_.mk (hbox); have n2_ := ba_.mk ((by rw [hg]; exact (wa_ (by repeat (first | (with_reducible first | exact HB.out | apply da_ | apply aa_ | apply ca_) | exact HB.out))) : w.heap.size ≤ gb144)); have n3_ := ba_.mk ((by rw [hg]; exact (wa_ (by repeat (first | (with_reducible first | exact HB.out | apply da_ | apply aa_ | apply ca_) | exact HB.out))) : w.heap.size ≤ gb144)); clear HB; have HB := n0_; have BK144 := n1_; have GW144 := n2_; have GE144 := n3_; clear n0_ n1_ n2_ n3_; clear hb hbox hg; have hcz16_0 : w15.cell? ⟨gb144, 0, none⟩ = some (.int .i64 a0_0) := (ga_ BK144.out 0).trans rfl; have hcz16_1 : w15.cell? ⟨gb144, 1, none⟩ = some (.int .i64 a0_1) := (ga_ BK144.out 1).trans rfl; have hcz16_2 : w15.cell? ⟨gb144, 2, none⟩ = some (.int .i64 a0_2) := (ga_ BK144.out 2).trans rfl; have hcz16_3 : w15.cell? ⟨gb144, 3, none⟩ = some (.int .i64 a0_3) := (ga_ BK144.out 3).trans rfl; have hfz16_0 := ha_ BK144.out 0; have hfz16_1 := ha_ BK144.out 1; have hfz16_2 := ha_ BK144.out 2; have hfz16_3 := ha_ BK144.out 3) | ((with_reducible refine la_ (f := 17) rfl ?_); refine wb_ (some 5) rfl rfl Tryd.func17 (by kernel_rfl) rfl #[.int .i64 a0_0, .int .i64 31] rfl (by (try simp only [List.map_toArray, List.map_cons, List.map_nil]); first | done | rfl | (simp only [List.length_drop, List.length_take]; rfl)) ?_; (with_reducible refine (sa_.calls a0_0 31 false _ A2.out).mono ?_); rintro e w' ⟨rfl, ⟨nd, rfl⟩⟩; refine ⟨_, rfl, ?_⟩))
  go_ret
  exact ⟨by first | rfl | (simp [xa_, ya_] <;> rfl) | (simp [*, xa_, ya_] <;> rfl), by repeat (first | (with_reducible first | exact HB.out | apply da_ | apply aa_ | apply ca_ | refine ia_ ?_ GE144.out) | exact HB.out)⟩
def pb_.f (a0_0 : Int) (a0_1 : Int) (a0_2 : Int) (a0_3 : Int) : Option (List Int × Int) := (na_.f a0_0 a0_1 a0_2 a0_3).bind fun t150 => (if t150 = true then (some ((([a0_0, wrap64 (Int.tdiv a0_1 1024), Int.tmod (wrap64 (Int.tdiv a0_1 32)) 32, Int.tmod a0_1 32, a0_2, a0_3] : List Int)), 0)) else (some (([] : List Int), 2)))
set_option maxHeartbeats 8000000 in
set_option maxRecDepth 100000 in
theorem pb_.calls (a0_0 : Int) (a0_1 : Int) (a0_2 : Int) (a0_3 : Int) (r1 : List Int) (r2 : Int) (w : World) (h : pb_.f a0_0 a0_1 a0_2 a0_3 = some (r1, r2)) :
  Calls Tryd.prog 7 #[.agg #[.int .i64 a0_0, .int .i64 a0_1, .int .i64 a0_2, .int .i64 a0_3]] w fun e w' => ∃ v0_ : Value, e = .returned (.tuple #[v0_, .int .i64 r2]) ∧ Kd.R (Kd.int .i64) 3 w' w.heap.size (fun _ => True) v0_ r1 ∧ Below w.heap.size w w' := by
 have hu26 := Tryd.underlying26
 have HB := ba_.mk (Below.refl w.heap.size w)
 have H : ((na_.f a0_0 a0_1 a0_2 a0_3).bind fun t150 => (if t150 = true then (some ((([a0_0, wrap64 (Int.tdiv a0_1 1024), Int.tmod (wrap64 (Int.tdiv a0_1 32)) 32, Int.tmod a0_1 32, a0_2, a0_3] : List Int)), 0)) else (some (([] : List Int), 2)))) = some (r1, r2) := h
 clear h
 replace H := Option.bind_eq_some_iff.mp H
 obtain ⟨t150, A20, H⟩ := H
 replace H : (if t150 = true then (some ((([a0_0, wrap64 (Int.tdiv a0_1 1024), Int.tmod (wrap64 (Int.tdiv a0_1 32)) 32, Int.tmod a0_1 32, a0_2, a0_3] : List Int)), 0)) else (some (([] : List Int), 2))) = some (r1, r2) := H
 have A2 := ba_.mk A20
 clear A20
 by_cases c3 : t150 = true
 ·subst c3
  have H1 : (some ((([a0_0, wrap64 (Int.tdiv a0_1 1024), Int.tmod (wrap64 (Int.tdiv a0_1 32)) 32, Int.tmod a0_1 32, a0_2, a0_3] : List Int)), 0)) = some (r1, r2) := by rw [if_pos rfl] at H; exact H
  clear H
  have H := H1
  clear H1
  obtain ⟨y151, hy151⟩ : ∃ y_ : List Int, y_ = (([a0_0, wrap64 (Int.tdiv a0_1 1024), Int.tmod (wrap64 (Int.tdiv a0_1 32)) 32, Int.tmod a0_1 32, a0_2, a0_3] : List Int)) := ⟨_, rfl⟩
  replace H : (some (y151, 0)) = some (r1, r2) := by first | (rw [hy151]; with_reducible exact H) | (have H2_ := (Option.bind_some _ _).symm.trans H; rw [hy151]; with_reducible exact H2_) | (have H2_ := (Option.bind_some _ _).symm.trans H; with_reducible exact H2_) | with_reducible exact H | (rw [hy151]; exact H) | exact H
  have Ny151 := ba_.mk hy151
  clear hy151
  simp only [Option.some.injEq, Prod.mk.injEq] at H
  obtain ⟨rfl, rfl⟩ := H
  go_enter Tryd.func7, Tryd.ntmps7
  go_wp2_with (first | ((with_reducible refine hc_ (N := 1) rfl ?_); refine ed_ ?hg (N := 1) ?hd (cs := #[.int .i64 a0_0, .int .i64 a0_1, .int .i64 a0_2, .int .i64 a0_3]) (t := 26) ?hr ?_; (case hd => rfl); (case hg => rfl); (case hr => first | (go_simp; done) | (go_simp; rfl)); intro gb149 hg w4 hbox hb; have n0_ := ba_.mk (pa_ (by repeat (first | (with_reducible first | exact HB.out | apply da_ | apply aa_ | apply ca_) | exact HB.out)) hb); have n1_ := ba_.mk (hbox); have n2_ := ba_.mk ((by rw [hg]; exact (wa_ (by repeat (first | (with_reducible first | exact HB.out | apply da_ | apply aa_ | apply ca_) | exact HB.out))) : w.heap.size ≤ gb149)); have n3_ := ba_.mk ((by rw [hg]; exact (wa_ (by repeat (first | (with_reducible first | exact HB.out | apply da_ | apply aa_ | apply ca_) | exact HB.out))) : w.heap.size ≤ gb149)); clear HB; have HB := n0_; have BK149 := n1_; have GW149 := n2_; have GE149 := n3_; clear n0_ n1_ n2_ n3_; clear hb hbox hg; have hcz5_0 : w4.cell? ⟨gb149, 0, none⟩ = some (.int .i64 a0_0) := (ga_ BK149.out 0).trans rfl; have hcz5_1 : w4.cell? ⟨gb149, 1, none⟩ = some (.int .i64 a0_1) := (ga_ BK149.out 1).trans rfl; have hcz5_2 : w4.cell? ⟨gb149, 2, none⟩ = some (.int .i64 a0_2) := (ga_ BK149.out 2).trans rfl; have hcz5_3 : w4.cell? ⟨gb149, 3, none⟩ = some (.int .i64 a0_3) := (ga_ BK149.out 3).trans rfl; have hfz5_0 := ha_ BK149.out 0; have hfz5_1 := ha_ BK149.out 1; have hfz5_2 := ha_ BK149.out 2; have hfz5_3 := ha_ BK149.out 3) | ((with_reducible refine la_ (f := 10) rfl ?_); refine wb_ (some 5) rfl rfl Tryd.func10 (by kernel_rfl) rfl #[.agg #[.int .i64 a0_0, .int .i64 a0_1, .int .i64 a0_2, .int .i64 a0_3]] rfl (by (try simp only [List.map_toArray, List.map_cons, List.map_nil]); first | done | rfl | (simp only [List.length_drop, List.length_take]; rfl)) ?_; (with_reducible refine (na_.calls a0_0 a0_1 a0_2 a0_3 true _ A2.out).mono ?_); rintro e w6 ⟨rfl, hb⟩; refine ⟨_, rfl, ?_⟩; have n0_ := ba_.mk (zb_ (g := gb149) (o := .cells #[.int .i64 a0_0, .int .i64 a0_1, .int .i64 a0_2, .int .i64 a0_3] 26 (0, 0)) (by (with_reducible repeat (first | refine ra_ ?_ _ | refine ab_ ?_ | refine qa_ ?_ _)); exact BK149.out) hb); have n1_ := ba_.mk (pa_ (by repeat (first | (with_reducible first | exact HB.out | apply da_ | apply aa_ | apply ca_ | refine ia_ ?_ GE149.out) | exact HB.out)) hb); clear BK149; clear HB; have BK149 := n0_; have HB := n1_; clear n0_ n1_; (try clear hb); (try clear hb2); (try clear hk); (try clear hi); have hcz7_0 : w6.cell? ⟨gb149, 0, none⟩ = some (.int .i64 a0_0) := (ga_ BK149.out 0).trans rfl; have hcz7_1 : w6.cell? ⟨gb149, 1, none⟩ = some (.int .i64 a0_1) := (ga_ BK149.out 1).trans rfl; have hcz7_2 : w6.cell? ⟨gb149, 2, none⟩ = some (.int .i64 a0_2) := (ga_ BK149.out 2).trans rfl; have hcz7_3 : w6.cell? ⟨gb149, 3, none⟩ = some (.int .i64 a0_3) := (ga_ BK149.out 3).trans rfl; have hfz7_0 := ha_ BK149.out 0; have hfz7_1 := ha_ BK149.out 1; have hfz7_2 := ha_ BK149.out 2; have hfz7_3 := ha_ BK149.out 3) | ((with_reducible refine hc_ (N := 23) rfl ?_); refine Kd.ai_ (Kd.int .i64) _ 3 ?hg (N := 23) ?hd (xs := ([a0_0, wrap64 (Int.tdiv a0_1 1024), Int.tmod (wrap64 (Int.tdiv a0_1 32)) 32, Int.tmod a0_1 32, a0_2, a0_3] : List Int)) (inner := [.int .i64 a0_0, .int .i64 (wrap64 (Int.tdiv a0_1 1024)), .int .i64 (Int.tmod (wrap64 (Int.tdiv a0_1 32)) 32), .int .i64 (Int.tmod a0_1 32), .int .i64 a0_2, .int .i64 a0_3]) (ok := fun _ => True) (okp := fun _ => True) ?hr ?hp (fun _ hk => hk) trivial (Below.refl _ _) (Nat.le_refl _) (by simp) ?_; (case hd => rfl); (case hg => rfl); (case hr => first | (go_simp; done) | (go_simp; rfl)); (case hp => exact (Reps.one (show Kd.M (Kd.int .i64) _ _ _ a0_0 [.int .i64 a0_0] from rfl) (Reps.one (show Kd.M (Kd.int .i64) _ _ _ (wrap64 (Int.tdiv a0_1 1024)) [.int .i64 (wrap64 (Int.tdiv a0_1 1024))] from rfl) (Reps.one (show Kd.M (Kd.int .i64) _ _ _ (Int.tmod (wrap64 (Int.tdiv a0_1 32)) 32) [.int .i64 (Int.tmod (wrap64 (Int.tdiv a0_1 32)) 32)] from rfl) (Reps.one (show Kd.M (Kd.int .i64) _ _ _ (Int.tmod a0_1 32) [.int .i64 (Int.tmod a0_1 32)] from rfl) (Reps.one (show Kd.M (Kd.int .i64) _ _ _ a0_2 [.int .i64 a0_2] from rfl) (Reps.one (show Kd.M (Kd.int .i64) _ _ _ a0_3 [.int .i64 a0_3] from rfl) (Reps.none _ _)))))))); intro v152 w8 ho9 hb hg_ hnew_; clear hg_ hnew_; (first | rw [← Ny151.out] at ho9 | (simp only [Int.reduceToNat] at ho9; rw [← Ny151.out] at ho9)); have n0_ := ba_.mk (Kd.wc_ ho9 (wa_ (by repeat (first | (with_reducible first | exact HB.out | apply da_ | apply aa_ | apply ca_ | refine ia_ ?_ GE149.out) | exact HB.out)))); have n1_ := ba_.mk (zb_ (g := gb149) (o := .cells #[.int .i64 a0_0, .int .i64 a0_1, .int .i64 a0_2, .int .i64 a0_3] 26 (0, 0)) (by (with_reducible repeat (first | refine ra_ ?_ _ | refine ab_ ?_ | refine qa_ ?_ _)); exact BK149.out) hb); have n2_ := ba_.mk (pa_ (by repeat (first | (with_reducible first | exact HB.out | apply da_ | apply aa_ | apply ca_ | refine ia_ ?_ GE149.out) | exact HB.out)) hb); clear BK149; clear HB; have HO153 := n0_; have BK149 := n1_; have HB := n2_; clear n0_ n1_ n2_; clear hb ho9))
  go_ret2
  exact ⟨_, by first | rfl | (simp [xa_, ya_] <;> rfl) | (simp [*, xa_, ya_] <;> rfl), by (with_reducible repeat (first | apply Kd.ta_ | apply Kd.ua_ | apply Kd.db_)); exact HO153.out, by repeat (first | (with_reducible first | exact HB.out | apply da_ | apply aa_ | apply ca_ | refine ia_ ?_ GE149.out) | exact HB.out)⟩
 ·replace c3 := Bool.eq_false_iff.mpr c3
  subst c3
  have H1 : (some (([] : List Int), 2)) = some (r1, r2) := by rw [if_neg (show ¬ (false = true) by decide)] at H; exact H
  clear H
  have H := H1
  clear H1
  simp only [Option.some.injEq, Prod.mk.injEq] at H
  obtain ⟨rfl, rfl⟩ := H
  go_enter Tryd.func7, Tryd.ntmps7
  go_wp2_with (first | ((with_reducible refine hc_ (N := 1) rfl ?_); refine ed_ ?hg (N := 1) ?hd (cs := #[.int .i64 a0_0, .int .i64 a0_1, .int .i64 a0_2, .int .i64 a0_3]) (t := 26) ?hr ?_; (case hd => rfl); (case hg => rfl); (case hr => first | (go_simp; done) | (go_simp; rfl)); intro gb149 hg w10 hbox hb; have n0_ := ba_.mk (pa_ (by repeat (first | (with_reducible first | exact HB.out | apply da_ | apply aa_ | apply ca_) | exact HB.out)) hb); have n1_ := ba_.mk (hbox); have n2_ := ba_.mk ((by rw [hg]; exact (wa_ (by repeat (first | (with_reducible first | exact HB.out | apply da_ | apply aa_ | apply ca_) | exact HB.out))) : w.heap.size ≤ gb149)); have n3_ := ba_.mk ((by rw [hg]; exact (wa_ (by repeat (first | (with_reducible first | exact HB.out | apply da_ | apply aa_ | apply ca_) | exact HB.out))) : w.heap.size ≤ gb149)); clear HB; have HB := n0_; have BK149 := n1_; have GW149 := n2_; have GE149 := n3_; clear n0_ n1_ n2_ n3_; clear hb hbox hg; have hcz11_0 : w10.cell? ⟨gb149, 0, none⟩ = some (.int .i64 a0_0) := (ga_ BK149.out 0).trans rfl; have hcz11_1 : w10.cell? ⟨gb149, 1, none⟩ = some (.int .i64 a0_1) := (ga_ BK149.out 1).trans rfl; have hcz11_2 : w10.cell? ⟨gb149, 2, none⟩ = some (.int .i64 a0_2) := (ga_ BK149.out 2).trans rfl; have hcz11_3 : w10.cell? ⟨gb149, 3, none⟩ = some (.int .i64 a0_3) := (ga_ BK149.out 3).trans rfl; have hfz11_0 := ha_ BK149.out 0; have hfz11_1 := ha_ BK149.out 1; have hfz11_2 := ha_ BK149.out 2; have hfz11_3 := ha_ BK149.out 3) | ((with_reducible refine la_ (f := 10) rfl ?_); refine wb_ (some 5) rfl rfl Tryd.func10 (by kernel_rfl) rfl #[.agg #[.int .i64 a0_0, .int .i64 a0_1, .int .i64 a0_2, .int .i64 a0_3]] rfl (by (try simp only [List.map_toArray, List.map_cons, List.map_nil]); first | done | rfl | (simp only [List.length_drop, List.length_take]; rfl)) ?_; (with_reducible refine (na_.calls a0_0 a0_1 a0_2 a0_3 false _ A2.out).mono ?_); rintro e w12 ⟨rfl, hb⟩; refine ⟨_, rfl, ?_⟩; have n0_ := ba_.mk (zb_ (g := gb149) (o := .cells #[.int .i64 a0_0, .int .i64 a0_1, .int .i64 a0_2, .int .i64 a0_3] 26 (0, 0)) (by (with_reducible repeat (first | refine ra_ ?_ _ | refine ab_ ?_ | refine qa_ ?_ _)); exact BK149.out) hb); have n1_ := ba_.mk (pa_ (by repeat (first | (with_reducible first | exact HB.out | apply da_ | apply aa_ | apply ca_ | refine ia_ ?_ GE149.out) | exact HB.out)) hb); clear BK149; clear HB; have BK149 := n0_; have HB := n1_; clear n0_ n1_; (try clear hb); (try clear hb2); (try clear hk); (try clear hi)))
  go_ret2
  exact ⟨_, by first | rfl | (simp [xa_, ya_] <;> rfl) | (simp [*, xa_, ya_] <;> rfl), by first | exact Kd.ue_ _ _ _ _ _ | exact Kd.qg_ _ _ _ _ _ | exact Kd.ug_ _ _ _ _ _ | exact Kd.rg_ _ _ _ _ _ | exact Kd.tg_ _ _ _ _ _, by repeat (first | (with_reducible first | exact HB.out | apply da_ | apply aa_ | apply ca_ | refine ia_ ?_ GE149.out) | exact HB.out)⟩
def ja_.l0 : Nat → List Int → List Int → Int → Option (Bool)
 | 0, _, _, _ => none
 | k + 1, x0, x1, x5 => if x5 < (x0.length : Int) then (if 0 ≤ x5 then (if x5 < (x1.length : Int) then (if (rd x0 x5) = (rd x1 x5) then (ja_.l0 k x0 x1 (wrap64 (x5 + 1))) else (some false)) else (none)) else (none)) else (some true)
def ja_.f (k : Nat) (l0 : List Int) (l1 : List Int) : Option (Bool) := if (l0.length : Int) = (l1.length : Int) then (ja_.l0 k l0 l1 0) else (some false)
theorem ja_.td_ : ∀ k, (∀ y0 y1 y2, LeO (ja_.l0 k y0 y1 y2) (ja_.l0 (k + 1) y0 y1 y2))
 | 0 => fun _ _ _ r h => by simp [ja_.l0] at h
 | k + 1 => by
  have ih0 := ja_.td_ k
  ·intro y0 y1 y2
   unfold ja_.l0
   repeat' first
   | (with_reducible exact ih0 _ _ _)
   | (with_reducible exact LeO.refl _)
   | (with_reducible exact LeO.none _)
   | (with_reducible refine LeO.ite ?_ ?_)
   | (with_reducible refine LeO.bind ?_ (fun _ => ?_))
   | exact ih0 _ _ _
   | exact LeO.none _
   | refine LeO.ite ?_ ?_
   | refine LeO.bind ?_ (fun _ => ?_)
theorem ja_.mono : ∀ a0 a1 k, LeO (ja_.f k a0 a1) (ja_.f (k + 1) a0 a1) := by
 intro a0 a1 k
 have ih0 := ja_.td_ k
 unfold ja_.f
 repeat' first
   | (with_reducible exact ih0 _ _ _)
   | (with_reducible exact LeO.refl _)
   | (with_reducible exact LeO.none _)
   | (with_reducible refine LeO.ite ?_ ?_)
   | (with_reducible refine LeO.bind ?_ (fun _ => ?_))
   | exact ih0 _ _ _
   | exact LeO.none _
   | refine LeO.ite ?_ ?_
   | refine LeO.bind ?_ (fun _ => ?_)
set_option maxHeartbeats 8000000 in
set_option maxRecDepth 100000 in
theorem ja_.calls (k : Nat) (A0 : Option Addr) (c0 : Nat) (l0 : List Int) (A1 : Option Addr) (c1 : Nat) (l1 : List Int) (r : Bool) (w : World) (hr0 : Kd.C (Kd.int .i64) w A0 l0.length l0) (hc0 : l0.length ≤ c0) (hr1 : Kd.C (Kd.int .i64) w A1 l1.length l1) (hc1 : l1.length ≤ c1) (h : ja_.f k l0 l1 = some r) :
  Calls Tryd.prog 8 #[.slice A0 l0.length c0, .slice A1 l1.length c1] w fun e w' => e = .returned (.bool r) ∧ gb_ w w' := by
 have HR0 := ba_.mk hr0
 have HC0 := ba_.mk hc0
 clear hr0 hc0
 have HR1 := ba_.mk hr1
 have HC1 := ba_.mk hc1
 clear hr1 hc1
 have H : (if (l0.length : Int) = (l1.length : Int) then (ja_.l0 k l0 l1 0) else (some false)) = some r := h
 clear h
 by_cases c3 : (l0.length : Int) = (l1.length : Int)
 ·rw [if_pos c3] at H
  have c3b0 : ((l0.length : Int) == (l1.length : Int)) = true := beq_iff_eq.mpr c3
  have c3b1 : ((l0.length : Int) != (l1.length : Int)) = false := bne_eq_false_iff_eq.mpr c3
  have c3b2 : (l0.length == l1.length) = true := by first | simpa using c3 | (simp at c3 ⊢; omega)
  clear c3
  have H' := ba_.mk H
  clear H
  go_enter Tryd.func8, Tryd.ntmps8
  go_wp2
  repeat (go_quiet (fail); try go_wp2)
  go_loopg [5] k (fun kq v5 w' => ∃ (x5_1 : Int), v5 = .int .i64 x5_1 ∧ ba_ (ja_.l0 kq l0 l1 x5_1 = some r) ∧ ba_ (kq ≤ k) ∧ gb_ w w')
  case atStart => exact ⟨(0), (by first | rfl | (simp; done) | (simp [*]; done)), H', ⟨Nat.le_refl _⟩, by repeat (first | exact gb_.refl _ | apply gb_.step)⟩
  case round =>
   clear H'
   try clear c1
   try clear p2
   try clear c3
   try clear c3b0
   try clear c3b1
   try clear c3b2
   obtain ⟨x5_1, rfl, HA, HK1, ⟨m1, rfl⟩⟩ := hrel
   cases gk with
   | zero => exact absurd HA.out (by simp [ja_.l0])
   | succ k1 =>
    have H := HA.out
    clear HA
    simp only [ja_.l0] at H
    by_cases c4 : x5_1 < (l0.length : Int)
    ·rw [if_pos c4] at H
     have c4b0 : decide (x5_1 < (l0.length : Int)) = true := decide_eq_true c4
     clear c4
     by_cases c5 : 0 ≤ x5_1
     ·rw [if_pos c5] at H
      have c5b0 : decide (0 ≤ x5_1) = true := decide_eq_true c5
      clear c5
      by_cases c6 : x5_1 < (l1.length : Int)
      ·rw [if_pos c6] at H
       have c6b0 : decide (x5_1 < (l1.length : Int)) = true := decide_eq_true c6
       clear c6
       by_cases c7 : (rd l0 x5_1) = (rd l1 x5_1)
       ·rw [if_pos c7] at H
        have c7b0 : ((rd l0 x5_1) == (rd l1 x5_1)) = true := beq_iff_eq.mpr c7
        have c7b1 : ((rd l0 x5_1) != (rd l1 x5_1)) = false := bne_eq_false_iff_eq.mpr c7
        clear c7
        have H' := ba_.mk H
        clear H
        have p154 : 0 ≤ (x5_1 : Int) := of_decide_eq_true (by first | (with_reducible assumption) | assumption)
        have q154 : x5_1 < (l0.length : Int) := of_decide_eq_true (by first | (with_reducible assumption) | assumption)
        obtain ⟨ad154, e154, hx154_0⟩ := Kd.id_ HR0.out x5_1 p154 q154
        cases e154
        replace p154 := eq_true p154
        replace q154 := eq_true q154
        have p155 : 0 ≤ (x5_1 : Int) := of_decide_eq_true (by first | (with_reducible assumption) | assumption)
        have q155 : x5_1 < (l1.length : Int) := of_decide_eq_true (by first | (with_reducible assumption) | assumption)
        obtain ⟨ad155, e155, hx155_0⟩ := Kd.id_ HR1.out x5_1 p155 q155
        cases e155
        replace p155 := eq_true p155
        replace q155 := eq_true q155
        go_wp2
        repeat (go_quiet (fail); try go_wp2)
        go_roundg k1
        case measure => have := HK1.out; omega
        case rel => exact ⟨(wrap64 (x5_1 + 1)), (by first | rfl | (simp; done) | (simp [*]; done)), H', ⟨by have := HK1.out; omega⟩, by repeat (first | exact gb_.refl _ | apply gb_.step)⟩
       ·rw [if_neg c7] at H
        have c7b0 : ((rd l0 x5_1) == (rd l1 x5_1)) = false := beq_eq_false_iff_ne.mpr c7
        have c7b1 : ((rd l0 x5_1) != (rd l1 x5_1)) = true := bne_iff_ne.mpr c7
        obtain rfl := Option.some.inj H
        have p154 : 0 ≤ (x5_1 : Int) := of_decide_eq_true (by first | (with_reducible assumption) | assumption)
        have q154 : x5_1 < (l0.length : Int) := of_decide_eq_true (by first | (with_reducible assumption) | assumption)
        obtain ⟨ad154, e154, hx154_0⟩ := Kd.id_ HR0.out x5_1 p154 q154
        cases e154
        replace p154 := eq_true p154
        replace q154 := eq_true q154
        have p155 : 0 ≤ (x5_1 : Int) := of_decide_eq_true (by first | (with_reducible assumption) | assumption)
        have q155 : x5_1 < (l1.length : Int) := of_decide_eq_true (by first | (with_reducible assumption) | assumption)
        obtain ⟨ad155, e155, hx155_0⟩ := Kd.id_ HR1.out x5_1 p155 q155
        cases e155
        replace p155 := eq_true p155
        replace q155 := eq_true q155
        go_wp2
        repeat (go_quiet (fail); try go_wp2)
        go_ret
        exact ⟨by first | rfl | (simp; done) | (simp [*]; done), by repeat (first | exact gb_.refl _ | apply gb_.step)⟩
      ·rw [if_neg c6] at H
       exact absurd H (by simp)
     ·rw [if_neg c5] at H
      exact absurd H (by simp)
    ·rw [if_neg c4] at H
     have c4b0 : decide (x5_1 < (l0.length : Int)) = false := decide_eq_false c4
     clear c4
     obtain rfl := Option.some.inj H
     go_wp2
     repeat (go_quiet (fail); try go_wp2)
     go_ret
     exact ⟨by first | rfl | (simp; done) | (simp [*]; done), by repeat (first | exact gb_.refl _ | apply gb_.step)⟩
 ·rw [if_neg c3] at H
  have c3b0 : ((l0.length : Int) == (l1.length : Int)) = false := beq_eq_false_iff_ne.mpr c3
  have c3b1 : ((l0.length : Int) != (l1.length : Int)) = true := bne_iff_ne.mpr c3
  have c3b2 : (l0.length == l1.length) = false := by first | simpa using c3 | (simp at c3 ⊢; omega)
  obtain rfl := Option.some.inj H
  go_enter Tryd.func8, Tryd.ntmps8
  go_wp2
  repeat (go_quiet (fail); try go_wp2)
  go_ret
  exact ⟨by first | rfl | (simp; done) | (simp [*]; done), by repeat (first | exact gb_.refl _ | apply gb_.step)⟩
end Go.Proofs.YtpkhgapifnjbeaaDoor.T
end
section
namespace Go.Proofs.YtpkhgapifnjbeaaDoor.T
open Go.RowKit Go.Proofs.YtpkhgapifnjbeaaDoor.G Go.Proofs.YtpkhgapifnjbeaaDoor.Rs Go.Proofs.YtpkhgapifnjbeaaDoorW.PrintWords Go.Proofs.YtpkhgapifnjbeaaDoorW.PrintLast Go.Proofs.YtpkhgapifnjbeaaDoorW.PrintMore
attribute [local go_sem] qc_ sc_ cd_ dd_ jc_ kc_ rc_ tc_
set_option linter.unusedVariables false
set_option linter.unusedSimpArgs false
theorem eqA26 (d : Nat) (w : World) (x0 y0 : Int) (x1 y1 : Int) (x2 y2 : Int) (x3 y3 : Int) :
  (Op.equalIn (d + 2) 26 (.agg #[.int .i64 x0, .int .i64 x1, .int .i64 x2, .int .i64 x3]) (.agg #[.int .i64 y0, .int .i64 y1, .int .i64 y2, .int .i64 y3])).run Tryd.prog w = .ok (x0 == y0 && (x1 == y1 && (x2 == y2 && (x3 == y3)))) w := by
 refine eqA_of Tryd.underlying26 (by kernel_rfl) ?_
 refine wj_ (by rfl) (by go_simp; rfl) (by go_simp; rfl) (by go_simp) ?_
 refine wj_ (by rfl) (by go_simp; rfl) (by go_simp; rfl) (by go_simp) ?_
 refine wj_ (by rfl) (by go_simp; rfl) (by go_simp; rfl) (by go_simp) ?_
 exact wp_ (by rfl) (by go_simp; rfl) (by go_simp; rfl) (by go_simp)
end Go.Proofs.YtpkhgapifnjbeaaDoor.T
end
section
namespace Go.Proofs.YtpkhgapifnjbeaaDoor.T
open Go.RowKit Go.Proofs.YtpkhgapifnjbeaaDoor.G Go.Proofs.YtpkhgapifnjbeaaDoor.Rs Go.Proofs.YtpkhgapifnjbeaaDoorW.PrintWords Go.Proofs.YtpkhgapifnjbeaaDoorW.PrintLast Go.Proofs.YtpkhgapifnjbeaaDoorW.PrintMore
attribute [local go_sem] qc_ sc_ cd_ dd_ jc_ kc_ rc_ tc_
set_option linter.unusedVariables false
set_option linter.unusedSimpArgs false
def vd_.f (a0 : ByteArray) : Option (ByteArray × Int) := (dg_.f a0).bind fun t156 => (if t156 = true then ((ef_.f a0).bind fun t157 => ((sd_.f a0).bind fun t158 => (if t158 = true then (some (a0, 0)) else ((sd_.f t157).bind fun t159 => (if t159 = true then (some (t157, 0)) else (some ((⟨#[]⟩ : ByteArray), 26))))))) else (some ((⟨#[]⟩ : ByteArray), 7)))
set_option maxHeartbeats 8000000 in
set_option maxRecDepth 100000 in
theorem vd_.calls (a0 : ByteArray) (r1 : ByteArray) (r2 : Int) (w : World) (h : vd_.f a0 = some (r1, r2)) :
  Calls Tryd.prog 30 #[.string a0] w fun e w' => e = .returned (.tuple #[.string r1, .int .i64 r2]) ∧ Below w.heap.size w w' := by
 have HB := ba_.mk (Below.refl w.heap.size w)
 have H : ((dg_.f a0).bind fun t156 => (if t156 = true then ((ef_.f a0).bind fun t157 => ((sd_.f a0).bind fun t158 => (if t158 = true then (some (a0, 0)) else ((sd_.f t157).bind fun t159 => (if t159 = true then (some (t157, 0)) else (some ((⟨#[]⟩ : ByteArray), 26))))))) else (some ((⟨#[]⟩ : ByteArray), 7)))) = some (r1, r2) := h
 clear h
 replace H := Option.bind_eq_some_iff.mp H
 obtain ⟨t156, A20, H⟩ := H
 replace H : (if t156 = true then ((ef_.f a0).bind fun t157 => ((sd_.f a0).bind fun t158 => (if t158 = true then (some (a0, 0)) else ((sd_.f t157).bind fun t159 => (if t159 = true then (some (t157, 0)) else (some ((⟨#[]⟩ : ByteArray), 26))))))) else (some ((⟨#[]⟩ : ByteArray), 7))) = some (r1, r2) := H
 have A2 := ba_.mk A20
 clear A20
 by_cases c3 : t156 = true
 ·subst c3
  have H1 : ((ef_.f a0).bind fun t157 => ((sd_.f a0).bind fun t158 => (if t158 = true then (some (a0, 0)) else ((sd_.f t157).bind fun t159 => (if t159 = true then (some (t157, 0)) else (some ((⟨#[]⟩ : ByteArray), 26))))))) = some (r1, r2) := by rw [if_pos rfl] at H; exact H
  clear H
  have H := H1
  clear H1
  replace H := Option.bind_eq_some_iff.mp H
  obtain ⟨t157, A40, H⟩ := H
  replace H : ((sd_.f a0).bind fun t158 => (if t158 = true then (some (a0, 0)) else ((sd_.f t157).bind fun t159 => (if t159 = true then (some (t157, 0)) else (some ((⟨#[]⟩ : ByteArray), 26)))))) = some (r1, r2) := H
  have A4 := ba_.mk A40
  clear A40
  replace H := Option.bind_eq_some_iff.mp H
  obtain ⟨t158, A50, H⟩ := H
  replace H : (if t158 = true then (some (a0, 0)) else ((sd_.f t157).bind fun t159 => (if t159 = true then (some (t157, 0)) else (some ((⟨#[]⟩ : ByteArray), 26))))) = some (r1, r2) := H
  have A5 := ba_.mk A50
  clear A50
  by_cases c6 : t158 = true
  ·subst c6
   have H1 : (some (a0, 0)) = some (r1, r2) := by rw [if_pos rfl] at H; exact H
   clear H
   have H := H1
   clear H1
   simp only [Option.some.injEq, Prod.mk.injEq] at H
   obtain ⟨rfl, rfl⟩ := H
   go_enter Tryd.func30, Tryd.ntmps30
   go_wp2_with (first | ((with_reducible refine la_ (f := 46) rfl ?_); refine wb_ (some 6) rfl rfl Tryd.func46 (by kernel_rfl) rfl #[.string a0] rfl (by (try simp only [List.map_toArray, List.map_cons, List.map_nil]); first | done | rfl | (simp only [List.length_drop, List.length_take]; rfl)) ?_; (with_reducible refine (dg_.calls a0 true _ A2.out).mono ?_); rintro e w7 ⟨rfl, hb⟩; refine ⟨_, rfl, ?_⟩; have n0_ := ba_.mk (pa_ (by repeat (first | (with_reducible first | exact HB.out | apply da_ | apply aa_ | apply ca_) | exact HB.out)) hb); clear HB; have HB := n0_; clear n0_; (try clear hb); (try clear hb2); (try clear hk); (try clear hi)) | ((with_reducible refine la_ (f := 20) rfl ?_); refine wb_ (some 9) rfl rfl Tryd.func20 (by kernel_rfl) rfl #[.string a0] rfl (by (try simp only [List.map_toArray, List.map_cons, List.map_nil]); first | done | rfl | (simp only [List.length_drop, List.length_take]; rfl)) ?_; (with_reducible refine (ef_.calls a0 t157 _ A4.out).mono ?_); rintro e w8 ⟨rfl, hb⟩; refine ⟨_, rfl, ?_⟩; have n0_ := ba_.mk (pa_ (by repeat (first | (with_reducible first | exact HB.out | apply da_ | apply aa_ | apply ca_) | exact HB.out)) hb); clear HB; have HB := n0_; clear n0_; (try clear hb); (try clear hb2); (try clear hk); (try clear hi)) | ((with_reducible refine la_ (f := 47) rfl ?_); refine wb_ (some 12) rfl rfl Tryd.func47 (by kernel_rfl) rfl #[.string a0] rfl (by (try simp only [List.map_toArray, List.map_cons, List.map_nil]); first | done | rfl | (simp only [List.length_drop, List.length_take]; rfl)) ?_; (with_reducible refine (sd_.calls a0 true _ A5.out).mono ?_); rintro e w9 ⟨rfl, hb⟩; refine ⟨_, rfl, ?_⟩; have n0_ := ba_.mk (pa_ (by repeat (first | (with_reducible first | exact HB.out | apply da_ | apply aa_ | apply ca_) | exact HB.out)) hb); clear HB; have HB := n0_; clear n0_; (try clear hb); (try clear hb2); (try clear hk); (try clear hi)))
   go_ret2
   exact ⟨by first | rfl | (simp [xa_, ya_] <;> rfl) | (simp [*, xa_, ya_] <;> rfl), by repeat (first | (with_reducible first | exact HB.out | apply da_ | apply aa_ | apply ca_) | exact HB.out)⟩
  ·replace c6 := Bool.eq_false_iff.mpr c6
   subst c6
   have H1 : ((sd_.f t157).bind fun t159 => (if t159 = true then (some (t157, 0)) else (some ((⟨#[]⟩ : ByteArray), 26)))) = some (r1, r2) := by rw [if_neg (show ¬ (false = true) by decide)] at H; exact H
   clear H
   have H := H1
   clear H1
   replace H := Option.bind_eq_some_iff.mp H
   obtain ⟨t159, A100, H⟩ := H
   replace H : (if t159 = true then (some (t157, 0)) else (some ((⟨#[]⟩ : ByteArray), 26))) = some (r1, r2) := H
   have A10 := ba_.mk A100
   clear A100
   by_cases c11 : t159 = true
   ·subst c11
    have H1 : (some (t157, 0)) = some (r1, r2) := by rw [if_pos rfl] at H; exact H
    clear H
    have H := H1
    clear H1
    simp only [Option.some.injEq, Prod.mk.injEq] at H
    obtain ⟨rfl, rfl⟩ := H
    go_enter Tryd.func30, Tryd.ntmps30
    go_wp2_with (first | ((with_reducible refine la_ (f := 46) rfl ?_); refine wb_ (some 6) rfl rfl Tryd.func46 (by kernel_rfl) rfl #[.string a0] rfl (by (try simp only [List.map_toArray, List.map_cons, List.map_nil]); first | done | rfl | (simp only [List.length_drop, List.length_take]; rfl)) ?_; (with_reducible refine (dg_.calls a0 true _ A2.out).mono ?_); rintro e w12 ⟨rfl, hb⟩; refine ⟨_, rfl, ?_⟩; have n0_ := ba_.mk (pa_ (by repeat (first | (with_reducible first | exact HB.out | apply da_ | apply aa_ | apply ca_) | exact HB.out)) hb); clear HB; have HB := n0_; clear n0_; (try clear hb); (try clear hb2); (try clear hk); (try clear hi)) | ((with_reducible refine la_ (f := 20) rfl ?_); refine wb_ (some 9) rfl rfl Tryd.func20 (by kernel_rfl) rfl #[.string a0] rfl (by (try simp only [List.map_toArray, List.map_cons, List.map_nil]); first | done | rfl | (simp only [List.length_drop, List.length_take]; rfl)) ?_; (with_reducible refine (ef_.calls a0 t157 _ A4.out).mono ?_); rintro e w13 ⟨rfl, hb⟩; refine ⟨_, rfl, ?_⟩; have n0_ := ba_.mk (pa_ (by repeat (first | (with_reducible first | exact HB.out | apply da_ | apply aa_ | apply ca_) | exact HB.out)) hb); clear HB; have HB := n0_; clear n0_; (try clear hb); (try clear hb2); (try clear hk); (try clear hi)) | ((with_reducible refine la_ (f := 47) rfl ?_); refine wb_ (some 12) rfl rfl Tryd.func47 (by kernel_rfl) rfl #[.string a0] rfl (by (try simp only [List.map_toArray, List.map_cons, List.map_nil]); first | done | rfl | (simp only [List.length_drop, List.length_take]; rfl)) ?_; (with_reducible refine (sd_.calls a0 false _ A5.out).mono ?_); rintro e w14 ⟨rfl, hb⟩; refine ⟨_, rfl, ?_⟩; have n0_ := ba_.mk (pa_ (by repeat (first | (with_reducible first | exact HB.out | apply da_ | apply aa_ | apply ca_) | exact HB.out)) hb); clear HB; have HB := n0_; clear n0_; (try clear hb); (try clear hb2); (try clear hk); (try clear hi)) | ((with_reducible refine la_ (f := 47) rfl ?_); refine wb_ (some 16) rfl rfl Tryd.func47 (by kernel_rfl) rfl #[.string t157] rfl (by (try simp only [List.map_toArray, List.map_cons, List.map_nil]); first | done | rfl | (simp only [List.length_drop, List.length_take]; rfl)) ?_; (with_reducible refine (sd_.calls t157 true _ A10.out).mono ?_); rintro e w15 ⟨rfl, hb⟩; refine ⟨_, rfl, ?_⟩; have n0_ := ba_.mk (pa_ (by repeat (first | (with_reducible first | exact HB.out | apply da_ | apply aa_ | apply ca_) | exact HB.out)) hb); clear HB; have HB := n0_; clear n0_; (try clear hb); (try clear hb2); (try clear hk); (try clear hi)))
    go_ret2
    exact ⟨by first | rfl | (simp [xa_, ya_] <;> rfl) | (simp [*, xa_, ya_] <;> rfl), by repeat (first | (with_reducible first | exact HB.out | apply da_ | apply aa_ | apply ca_) | exact HB.out)⟩
   ·replace c11 := Bool.eq_false_iff.mpr c11
    subst c11
    have H1 : (some ((⟨#[]⟩ : ByteArray), 26)) = some (r1, r2) := by rw [if_neg (show ¬ (false = true) by decide)] at H; exact H
    clear H
    have H := H1
    clear H1
    simp only [Option.some.injEq, Prod.mk.injEq] at H
    obtain ⟨rfl, rfl⟩ := H
    go_enter Tryd.func30, Tryd.ntmps30
    go_wp2_with (first | ((with_reducible refine la_ (f := 46) rfl ?_); refine wb_ (some 6) rfl rfl Tryd.func46 (by kernel_rfl) rfl #[.string a0] rfl (by (try simp only [List.map_toArray, List.map_cons, List.map_nil]); first | done | rfl | (simp only [List.length_drop, List.length_take]; rfl)) ?_; (with_reducible refine (dg_.calls a0 true _ A2.out).mono ?_); rintro e w16 ⟨rfl, hb⟩; refine ⟨_, rfl, ?_⟩; have n0_ := ba_.mk (pa_ (by repeat (first | (with_reducible first | exact HB.out | apply da_ | apply aa_ | apply ca_) | exact HB.out)) hb); clear HB; have HB := n0_; clear n0_; (try clear hb); (try clear hb2); (try clear hk); (try clear hi)) | ((with_reducible refine la_ (f := 20) rfl ?_); refine wb_ (some 9) rfl rfl Tryd.func20 (by kernel_rfl) rfl #[.string a0] rfl (by (try simp only [List.map_toArray, List.map_cons, List.map_nil]); first | done | rfl | (simp only [List.length_drop, List.length_take]; rfl)) ?_; (with_reducible refine (ef_.calls a0 t157 _ A4.out).mono ?_); rintro e w17 ⟨rfl, hb⟩; refine ⟨_, rfl, ?_⟩; have n0_ := ba_.mk (pa_ (by repeat (first | (with_reducible first | exact HB.out | apply da_ | apply aa_ | apply ca_) | exact HB.out)) hb); clear HB; have HB := n0_; clear n0_; (try clear hb); (try clear hb2); (try clear hk); (try clear hi)) | ((with_reducible refine la_ (f := 47) rfl ?_); refine wb_ (some 12) rfl rfl Tryd.func47 (by kernel_rfl) rfl #[.string a0] rfl (by (try simp only [List.map_toArray, List.map_cons, List.map_nil]); first | done | rfl | (simp only [List.length_drop, List.length_take]; rfl)) ?_; (with_reducible refine (sd_.calls a0 false _ A5.out).mono ?_); rintro e w18 ⟨rfl, hb⟩; refine ⟨_, rfl, ?_⟩; have n0_ := ba_.mk (pa_ (by repeat (first | (with_reducible first | exact HB.out | apply da_ | apply aa_ | apply ca_) | exact HB.out)) hb); clear HB; have HB := n0_; clear n0_; (try clear hb); (try clear hb2); (try clear hk); (try clear hi)) | ((with_reducible refine la_ (f := 47) rfl ?_); refine wb_ (some 16) rfl rfl Tryd.func47 (by kernel_rfl) rfl #[.string t157] rfl (by (try simp only [List.map_toArray, List.map_cons, List.map_nil]); first | done | rfl | (simp only [List.length_drop, List.length_take]; rfl)) ?_; (with_reducible refine (sd_.calls t157 false _ A10.out).mono ?_); rintro e w19 ⟨rfl, hb⟩; refine ⟨_, rfl, ?_⟩; have n0_ := ba_.mk (pa_ (by repeat (first | (with_reducible first | exact HB.out | apply da_ | apply aa_ | apply ca_) | exact HB.out)) hb); clear HB; have HB := n0_; clear n0_; (try clear hb); (try clear hb2); (try clear hk); (try clear hi)))
    go_ret2
    exact ⟨by first | rfl | (simp [xa_, ya_] <;> rfl) | (simp [*, xa_, ya_] <;> rfl), by repeat (first | (with_reducible first | exact HB.out | apply da_ | apply aa_ | apply ca_) | exact HB.out)⟩
 ·replace c3 := Bool.eq_false_iff.mpr c3
  subst c3
  have H1 : (some ((⟨#[]⟩ : ByteArray), 7)) = some (r1, r2) := by rw [if_neg (show ¬ (false = true) by decide)] at H; exact H
  clear H
  have H := H1
  clear H1
  simp only [Option.some.injEq, Prod.mk.injEq] at H
  obtain ⟨rfl, rfl⟩ := H
  go_enter Tryd.func30, Tryd.ntmps30
  go_wp2_with (first | ((with_reducible refine la_ (f := 46) rfl ?_); refine wb_ (some 6) rfl rfl Tryd.func46 (by kernel_rfl) rfl #[.string a0] rfl (by (try simp only [List.map_toArray, List.map_cons, List.map_nil]); first | done | rfl | (simp only [List.length_drop, List.length_take]; rfl)) ?_; (with_reducible refine (dg_.calls a0 false _ A2.out).mono ?_); rintro e w20 ⟨rfl, hb⟩; refine ⟨_, rfl, ?_⟩; have n0_ := ba_.mk (pa_ (by repeat (first | (with_reducible first | exact HB.out | apply da_ | apply aa_ | apply ca_) | exact HB.out)) hb); clear HB; have HB := n0_; clear n0_; (try clear hb); (try clear hb2); (try clear hk); (try clear hi)))
  go_ret2
  exact ⟨by first | rfl | (simp [xa_, ya_] <;> rfl) | (simp [*, xa_, ya_] <;> rfl), by repeat (first | (with_reducible first | exact HB.out | apply da_ | apply aa_ | apply ca_) | exact HB.out)⟩
def hd_.f (a0 : ByteArray) : Option (Int × Int × Int × Int × Int × Int) := (vd_.f a0).bind fun bt161 => (if bt161.2 = 0 then ((cg_.f bt161.1).bind fun bt163 => ((xj_.f bt163.1).bind fun bt167 => (if bt167.2.2 = 0 then (if 0 < (bt167.1.length : Int) then (if 1 < (bt167.1.length : Int) then (if 2 < (bt167.1.length : Int) then (if 3 < (bt167.1.length : Int) then (if 4 < (bt167.1.length : Int) then (if 5 < (bt167.1.length : Int) then ((xc_.f (rd bt167.1 0) (wrap64 ((wrap64 ((wrap64 ((rd bt167.1 1) * 1024)) + (wrap64 ((rd bt167.1 2) * 32)))) + (rd bt167.1 3))) (rd bt167.1 4) (rd bt167.1 5)).bind fun t178 => (if t178 = true then (some (rd bt167.1 0, wrap64 ((wrap64 ((wrap64 ((rd bt167.1 1) * 1024)) + (wrap64 ((rd bt167.1 2) * 32)))) + (rd bt167.1 3)), rd bt167.1 4, rd bt167.1 5, bt167.2.1, 0)) else (some (0, 0, 0, 0, 0, 2)))) else (none)) else (none)) else (none)) else (none)) else (none)) else (none)) else (some (0, 0, 0, 0, 0, bt167.2.2))))) else (some (0, 0, 0, 0, 0, bt161.2)))
def hd_.T8 : Bool × List (List Nat × List Nat) := (true, [([], []), ([0], [0]), ([1], [1]), ([], []), ([3], [3]), ([4], [4]), ([5], [5]), ([], []), ([7], [7]), ([8], [8]), ([9], [9]), ([6, 10], [6, 10]), ([], []), ([12], [12]), ([13], [13]), ([11, 14], [11, 14]), ([], []), ([16], [16]), ([17], [17]), ([], []), ([19], [19]), ([20], [20]), ([2, 15, 18, 21], [2, 15, 18, 21]), ([22, 0, 1, 2, 3, 4, 5, 6, 7, 8, 9, 10, 11, 12, 13, 14, 15, 16, 17, 18, 19, 20, 21, 22], [22])])
def hd_.B8 : List Nat := [0, 1, 3, 0, 8, 24, 56, 0, 128, 384, 896, 2040, 0, 4096, 12288, 32760, 0, 65536, 196608, 0, 524288, 1572864, 4194303, 8388607]
theorem hd_.tab8 : rtab .any (opsOf Tryd.f19 8) = hd_.T8 := by kernel_rfl
theorem hd_.zm_ : jf_ hd_.T8.2 hd_.B8 = true := by kernel_rfl
set_option maxHeartbeats 8000000 in
set_option maxRecDepth 100000 in
theorem hd_.calls (a0 : ByteArray) (r1 : Int) (r2 : Int) (r3 : Int) (r4 : Int) (r5 : Int) (r6 : Int) (w : World) (h : hd_.f a0 = some (r1, r2, r3, r4, r5, r6)) :
  Calls Tryd.prog 19 #[.string a0] w fun e w' => e = .returned (.tuple #[.agg #[.int .i64 r1, .int .i64 r2, .int .i64 r3, .int .i64 r4], .int .i64 r5, .int .i64 r6]) ∧ Below w.heap.size w w' := by
 have hu26 := Tryd.underlying26
 have HB := ba_.mk (Below.refl w.heap.size w)
 have H : ((vd_.f a0).bind fun bt161 => (if bt161.2 = 0 then ((cg_.f bt161.1).bind fun bt163 => ((xj_.f bt163.1).bind fun bt167 => (if bt167.2.2 = 0 then (if 0 < (bt167.1.length : Int) then (if 1 < (bt167.1.length : Int) then (if 2 < (bt167.1.length : Int) then (if 3 < (bt167.1.length : Int) then (if 4 < (bt167.1.length : Int) then (if 5 < (bt167.1.length : Int) then ((xc_.f (rd bt167.1 0) (wrap64 ((wrap64 ((wrap64 ((rd bt167.1 1) * 1024)) + (wrap64 ((rd bt167.1 2) * 32)))) + (rd bt167.1 3))) (rd bt167.1 4) (rd bt167.1 5)).bind fun t178 => (if t178 = true then (some (rd bt167.1 0, wrap64 ((wrap64 ((wrap64 ((rd bt167.1 1) * 1024)) + (wrap64 ((rd bt167.1 2) * 32)))) + (rd bt167.1 3)), rd bt167.1 4, rd bt167.1 5, bt167.2.1, 0)) else (some (0, 0, 0, 0, 0, 2)))) else (none)) else (none)) else (none)) else (none)) else (none)) else (none)) else (some (0, 0, 0, 0, 0, bt167.2.2))))) else (some (0, 0, 0, 0, 0, bt161.2)))) = some (r1, r2, r3, r4, r5, r6) := h
 clear h
 replace H := Option.bind_eq_some_iff.mp H
 obtain ⟨⟨t161, t162⟩, A20, H⟩ := H
 replace H : (if t162 = 0 then ((cg_.f t161).bind fun bt163 => ((xj_.f bt163.1).bind fun bt167 => (if bt167.2.2 = 0 then (if 0 < (bt167.1.length : Int) then (if 1 < (bt167.1.length : Int) then (if 2 < (bt167.1.length : Int) then (if 3 < (bt167.1.length : Int) then (if 4 < (bt167.1.length : Int) then (if 5 < (bt167.1.length : Int) then ((xc_.f (rd bt167.1 0) (wrap64 ((wrap64 ((wrap64 ((rd bt167.1 1) * 1024)) + (wrap64 ((rd bt167.1 2) * 32)))) + (rd bt167.1 3))) (rd bt167.1 4) (rd bt167.1 5)).bind fun t178 => (if t178 = true then (some (rd bt167.1 0, wrap64 ((wrap64 ((wrap64 ((rd bt167.1 1) * 1024)) + (wrap64 ((rd bt167.1 2) * 32)))) + (rd bt167.1 3)), rd bt167.1 4, rd bt167.1 5, bt167.2.1, 0)) else (some (0, 0, 0, 0, 0, 2)))) else (none)) else (none)) else (none)) else (none)) else (none)) else (none)) else (some (0, 0, 0, 0, 0, bt167.2.2))))) else (some (0, 0, 0, 0, 0, t162))) = some (r1, r2, r3, r4, r5, r6) := H
 have A2 := ba_.mk A20
 clear A20
 by_cases c3 : t162 = 0
 ·rw [if_pos c3] at H
  have c3b0 : (t162 == 0) = true := beq_iff_eq.mpr c3
  have c3b1 : (t162 != 0) = false := bne_eq_false_iff_eq.mpr c3
  clear c3
  replace H := Option.bind_eq_some_iff.mp H
  obtain ⟨⟨t163, t164⟩, A40, H⟩ := H
  replace H : ((xj_.f t163).bind fun bt167 => (if bt167.2.2 = 0 then (if 0 < (bt167.1.length : Int) then (if 1 < (bt167.1.length : Int) then (if 2 < (bt167.1.length : Int) then (if 3 < (bt167.1.length : Int) then (if 4 < (bt167.1.length : Int) then (if 5 < (bt167.1.length : Int) then ((xc_.f (rd bt167.1 0) (wrap64 ((wrap64 ((wrap64 ((rd bt167.1 1) * 1024)) + (wrap64 ((rd bt167.1 2) * 32)))) + (rd bt167.1 3))) (rd bt167.1 4) (rd bt167.1 5)).bind fun t178 => (if t178 = true then (some (rd bt167.1 0, wrap64 ((wrap64 ((wrap64 ((rd bt167.1 1) * 1024)) + (wrap64 ((rd bt167.1 2) * 32)))) + (rd bt167.1 3)), rd bt167.1 4, rd bt167.1 5, bt167.2.1, 0)) else (some (0, 0, 0, 0, 0, 2)))) else (none)) else (none)) else (none)) else (none)) else (none)) else (none)) else (some (0, 0, 0, 0, 0, bt167.2.2)))) = some (r1, r2, r3, r4, r5, r6) := H
  have A4 := ba_.mk A40
  clear A40
  replace H := Option.bind_eq_some_iff.mp H
  obtain ⟨⟨t167, t168, t169⟩, A50, H⟩ := H
  replace H : (if t169 = 0 then (if 0 < (t167.length : Int) then (if 1 < (t167.length : Int) then (if 2 < (t167.length : Int) then (if 3 < (t167.length : Int) then (if 4 < (t167.length : Int) then (if 5 < (t167.length : Int) then ((xc_.f (rd t167 0) (wrap64 ((wrap64 ((wrap64 ((rd t167 1) * 1024)) + (wrap64 ((rd t167 2) * 32)))) + (rd t167 3))) (rd t167 4) (rd t167 5)).bind fun t178 => (if t178 = true then (some (rd t167 0, wrap64 ((wrap64 ((wrap64 ((rd t167 1) * 1024)) + (wrap64 ((rd t167 2) * 32)))) + (rd t167 3)), rd t167 4, rd t167 5, t168, 0)) else (some (0, 0, 0, 0, 0, 2)))) else (none)) else (none)) else (none)) else (none)) else (none)) else (none)) else (some (0, 0, 0, 0, 0, t169))) = some (r1, r2, r3, r4, r5, r6) := H
  have A5 := ba_.mk A50
  clear A50
  by_cases c6 : t169 = 0
  ·rw [if_pos c6] at H
   have c6b0 : (t169 == 0) = true := beq_iff_eq.mpr c6
   have c6b1 : (t169 != 0) = false := bne_eq_false_iff_eq.mpr c6
   clear c6
   by_cases c7 : 0 < (t167.length : Int)
   ·rw [if_pos c7] at H
    have c7b0 : decide (0 < (t167.length : Int)) = true := decide_eq_true c7
    have c7b1 : decide (0 < t167.length) = true := decide_eq_true (by omega)
    clear c7
    by_cases c8 : 1 < (t167.length : Int)
    ·rw [if_pos c8] at H
     have c8b0 : decide (1 < (t167.length : Int)) = true := decide_eq_true c8
     have c8b1 : decide (1 < t167.length) = true := decide_eq_true (by omega)
     clear c8
     by_cases c9 : 2 < (t167.length : Int)
     ·rw [if_pos c9] at H
      have c9b0 : decide (2 < (t167.length : Int)) = true := decide_eq_true c9
      have c9b1 : decide (2 < t167.length) = true := decide_eq_true (by omega)
      clear c9
      by_cases c10 : 3 < (t167.length : Int)
      ·rw [if_pos c10] at H
       have c10b0 : decide (3 < (t167.length : Int)) = true := decide_eq_true c10
       have c10b1 : decide (3 < t167.length) = true := decide_eq_true (by omega)
       clear c10
       by_cases c11 : 4 < (t167.length : Int)
       ·rw [if_pos c11] at H
        have c11b0 : decide (4 < (t167.length : Int)) = true := decide_eq_true c11
        have c11b1 : decide (4 < t167.length) = true := decide_eq_true (by omega)
        clear c11
        by_cases c12 : 5 < (t167.length : Int)
        ·rw [if_pos c12] at H
         have c12b0 : decide (5 < (t167.length : Int)) = true := decide_eq_true c12
         have c12b1 : decide (5 < t167.length) = true := decide_eq_true (by omega)
         clear c12
         replace H := Option.bind_eq_some_iff.mp H
         obtain ⟨t178, A130, H⟩ := H
         replace H : (if t178 = true then (some (rd t167 0, wrap64 ((wrap64 ((wrap64 ((rd t167 1) * 1024)) + (wrap64 ((rd t167 2) * 32)))) + (rd t167 3)), rd t167 4, rd t167 5, t168, 0)) else (some (0, 0, 0, 0, 0, 2))) = some (r1, r2, r3, r4, r5, r6) := H
         have A13 := ba_.mk A130
         clear A130
         by_cases c14 : t178 = true
         ·subst c14
          have H1 : (some (rd t167 0, wrap64 ((wrap64 ((wrap64 ((rd t167 1) * 1024)) + (wrap64 ((rd t167 2) * 32)))) + (rd t167 3)), rd t167 4, rd t167 5, t168, 0)) = some (r1, r2, r3, r4, r5, r6) := by rw [if_pos rfl] at H; exact H
          clear H
          have H := H1
          clear H1
          simp only [Option.some.injEq, Prod.mk.injEq] at H
          obtain ⟨rfl, rfl, rfl, rfl, rfl, rfl⟩ := H
          go_enter Tryd.func19, Tryd.ntmps19
          try go_wp2_with (first | ((with_reducible refine hc_ (N := 2) rfl ?_); refine ed_ ?hg (N := 2) ?hd (cs := #[.int .i64 0, .int .i64 0, .int .i64 0, .int .i64 0]) (t := 26) ?hr ?_; (case hd => rfl); (case hg => rfl); (case hr => first | (go_simp; done) | (go_simp; rfl)); intro gb160 hg w15 hbox hb; have n0_ := ba_.mk (pa_ (by repeat (first | (with_reducible first | exact HB.out | apply da_ | apply aa_ | apply ca_) | exact HB.out)) hb); have n1_ := ba_.mk (hbox); have n2_ := ba_.mk ((by rw [hg]; exact (wa_ (by repeat (first | (with_reducible first | exact HB.out | apply da_ | apply aa_ | apply ca_) | exact HB.out))) : w.heap.size ≤ gb160)); have n3_ := ba_.mk ((by rw [hg]; exact (wa_ (by repeat (first | (with_reducible first | exact HB.out | apply da_ | apply aa_ | apply ca_) | exact HB.out))) : w.heap.size ≤ gb160)); clear HB; have HB := n0_; have BK160 := n1_; have GW160 := n2_; have GE160 := n3_; clear n0_ n1_ n2_ n3_; clear hb hbox hg) | ((with_reducible refine la_ (f := 30) rfl ?_); refine wb_ (some 10) rfl rfl Tryd.func30 (by kernel_rfl) rfl #[.string a0] rfl (by (try simp only [List.map_toArray, List.map_cons, List.map_nil]); first | done | rfl | (simp only [List.length_drop, List.length_take]; rfl)) ?_; (with_reducible refine (vd_.calls a0 t161 t162 _ A2.out).mono ?_); rintro e w16 ⟨rfl, hb⟩; refine ⟨_, rfl, ?_⟩; have n0_ := ba_.mk (zb_ (g := gb160) (o := .cells #[.int .i64 0, .int .i64 0, .int .i64 0, .int .i64 0] 26 (0, 0)) (by (with_reducible repeat (first | refine ra_ ?_ _ | refine ab_ ?_ | refine qa_ ?_ _)); exact BK160.out) hb); have n1_ := ba_.mk (pa_ (by repeat (first | (with_reducible first | exact HB.out | apply da_ | apply aa_ | apply ca_ | refine ia_ ?_ GE160.out) | exact HB.out)) hb); clear BK160; clear HB; have BK160 := n0_; have HB := n1_; clear n0_ n1_; (try clear hb); (try clear hb2); (try clear hk); (try clear hi)) | ((with_reducible refine la_ (f := 31) rfl ?_); refine wb_ (some 19) rfl rfl Tryd.func31 (by kernel_rfl) rfl #[.string t161] rfl (by (try simp only [List.map_toArray, List.map_cons, List.map_nil]); first | done | rfl | (simp only [List.length_drop, List.length_take]; rfl)) ?_; (with_reducible refine (cg_.calls t161 t163 t164 _ A4.out).mono ?_); rintro e w17 ⟨v165, rfl, ho0, hb⟩; refine ⟨_, rfl, ?_⟩; have n0_ := ba_.mk (Kd.wc_ ho0 (wa_ (by repeat (first | (with_reducible first | exact HB.out | apply da_ | apply aa_ | apply ca_ | refine ia_ ?_ GE160.out) | exact HB.out)))); have n1_ := ba_.mk (zb_ (g := gb160) (o := .cells #[.int .i64 0, .int .i64 0, .int .i64 0, .int .i64 0] 26 (0, 0)) (by (with_reducible repeat (first | refine ra_ ?_ _ | refine ab_ ?_ | refine qa_ ?_ _)); exact BK160.out) hb); have n2_ := ba_.mk (pa_ (by repeat (first | (with_reducible first | exact HB.out | apply da_ | apply aa_ | apply ca_ | refine ia_ ?_ GE160.out) | exact HB.out)) hb); clear BK160; clear HB; have HO166 := n0_; have BK160 := n1_; have HB := n2_; clear n0_ n1_ n2_; (try clear hb); (try clear hb2); (try clear hk); (try clear hi); (try clear ho0); obtain ⟨Ao18, co18, eo18⟩ := Kd.nc_ HO166.out; subst eo18) | ((with_reducible refine la_ (f := 32) rfl ?_); refine wb_ (some 24) rfl rfl Tryd.func32 (by kernel_rfl) rfl #[.slice Ao18 t163.length co18] rfl (by (try simp only [List.map_toArray, List.map_cons, List.map_nil]); first | done | rfl | (simp only [List.length_drop, List.length_take]; rfl)) ?_; (with_reducible refine (xj_.calls _ _ t163 t167 t168 t169 _ ?side1 ?side2 A5.out).mono ?_); (case side1 => repeat (first | exact (Kd.lb_ HO166.out).2.2 | (with_reducible refine Kd.zc_ ?_ _) | (with_reducible refine Kd.ad_ ?_ _) | (with_reducible refine Kd.md_ ?_))); (case side2 => exact (Kd.lb_ HO166.out).2.1); rintro e w19 ⟨v170, rfl, ho0, hb⟩; refine ⟨_, rfl, ?_⟩; have n0_ := ba_.mk (Kd.gd_ (by (with_reducible repeat (first | apply Kd.ta_ | apply Kd.ua_ | apply Kd.db_)); exact HO166.out) (Kd.be_ ho0) hb); have n1_ := ba_.mk (Kd.wc_ (Kd.yd_ ho0 (Kd.R_lt (by (with_reducible repeat (first | apply Kd.ta_ | apply Kd.ua_ | apply Kd.db_)); exact HO166.out))) (wa_ (by repeat (first | (with_reducible first | exact HB.out | apply da_ | apply aa_ | apply ca_ | refine ia_ ?_ GE160.out) | exact HB.out)))); have n2_ := ba_.mk (zb_ (g := gb160) (o := .cells #[.int .i64 0, .int .i64 0, .int .i64 0, .int .i64 0] 26 (0, 0)) (by (with_reducible repeat (first | refine ra_ ?_ _ | refine ab_ ?_ | refine qa_ ?_ _)); exact BK160.out) hb); have n3_ := ba_.mk (pa_ (by repeat (first | (with_reducible first | exact HB.out | apply da_ | apply aa_ | apply ca_ | refine ia_ ?_ GE160.out) | exact HB.out)) hb); clear HO166; clear BK160; clear HB; have HO166 := n0_; have HO171 := n1_; have BK160 := n2_; have HB := n3_; clear n0_ n1_ n2_ n3_; (try clear hb); (try clear hb2); (try clear hk); (try clear hi); (try clear ho0)))
          have n0_ := ba_.mk (Kd.db_ HO166.out)
          have n1_ := ba_.mk (Kd.db_ HO171.out)
          have n2_ := ba_.mk (ab_ BK160.out)
          have n3_ := ba_.mk (ca_ HB.out)
          clear HO166
          clear HO171
          clear BK160
          clear HB
          have HO166 := n0_
          have HO171 := n1_
          have BK160 := n2_
          have HB := n3_
          clear n0_ n1_ n2_ n3_
          obtain ⟨Ao21, co21, eo21⟩ := Kd.nc_ HO171.out
          (first | subst eo21 | (injection eo21 with f1_ f2_ f3_; have f4_ := f1_.symm; have f5_ := f3_.symm; clear f1_ f2_ f3_; subst f4_; subst f5_))
          have p172 : 0 ≤ (0 : Int) := (by omega)
          have q172 : 0 < (t167.length : Int) := of_decide_eq_true (by first | (with_reducible assumption) | assumption)
          obtain ⟨ad172, e172, hx172_0⟩ := Kd.id_ (Kd.lb_ HO171.out).2.2 0 p172 q172
          cases e172
          have qi172 : (0 < t167.length) = True := eq_true (by omega)
          (try rw [show ((0 : Int)).toNat = 0 from rfl] at hx172_0)
          (try rw [Addr.add_zero'] at hx172_0)
          replace p172 := eq_true p172
          replace q172 := eq_true q172
          have p173 : 0 ≤ (1 : Int) := (by omega)
          have q173 : 1 < (t167.length : Int) := of_decide_eq_true (by first | (with_reducible assumption) | assumption)
          obtain ⟨ad173, e173, hx173_0⟩ := Kd.id_ (Kd.lb_ HO171.out).2.2 1 p173 q173
          obtain rfl : ad172 = ad173 := (by injection e173)
          (try simp only [show (1 : Int).toNat = 1 from rfl, Nat.reduceMul, Nat.reduceEqDiff, Go.Addr.add, ↓reduceIte] at hx173_0)
          have qi173 : (1 < t167.length) = True := eq_true (by omega)
          (try rw [show ((1 : Int)).toNat = 1 from rfl] at hx173_0)
          replace p173 := eq_true p173
          replace q173 := eq_true q173
          have p174 : 0 ≤ (2 : Int) := (by omega)
          have q174 : 2 < (t167.length : Int) := of_decide_eq_true (by first | (with_reducible assumption) | assumption)
          obtain ⟨ad174, e174, hx174_0⟩ := Kd.id_ (Kd.lb_ HO171.out).2.2 2 p174 q174
          obtain rfl : ad172 = ad174 := (by injection e174)
          (try simp only [show (2 : Int).toNat = 2 from rfl, Nat.reduceMul, Nat.reduceEqDiff, Go.Addr.add, ↓reduceIte] at hx174_0)
          have qi174 : (2 < t167.length) = True := eq_true (by omega)
          (try rw [show ((2 : Int)).toNat = 2 from rfl] at hx174_0)
          replace p174 := eq_true p174
          replace q174 := eq_true q174
          have p175 : 0 ≤ (3 : Int) := (by omega)
          have q175 : 3 < (t167.length : Int) := of_decide_eq_true (by first | (with_reducible assumption) | assumption)
          obtain ⟨ad175, e175, hx175_0⟩ := Kd.id_ (Kd.lb_ HO171.out).2.2 3 p175 q175
          obtain rfl : ad172 = ad175 := (by injection e175)
          (try simp only [show (3 : Int).toNat = 3 from rfl, Nat.reduceMul, Nat.reduceEqDiff, Go.Addr.add, ↓reduceIte] at hx175_0)
          have qi175 : (3 < t167.length) = True := eq_true (by omega)
          (try rw [show ((3 : Int)).toNat = 3 from rfl] at hx175_0)
          replace p175 := eq_true p175
          replace q175 := eq_true q175
          have p176 : 0 ≤ (4 : Int) := (by omega)
          have q176 : 4 < (t167.length : Int) := of_decide_eq_true (by first | (with_reducible assumption) | assumption)
          obtain ⟨ad176, e176, hx176_0⟩ := Kd.id_ (Kd.lb_ HO171.out).2.2 4 p176 q176
          obtain rfl : ad172 = ad176 := (by injection e176)
          (try simp only [show (4 : Int).toNat = 4 from rfl, Nat.reduceMul, Nat.reduceEqDiff, Go.Addr.add, ↓reduceIte] at hx176_0)
          have qi176 : (4 < t167.length) = True := eq_true (by omega)
          (try rw [show ((4 : Int)).toNat = 4 from rfl] at hx176_0)
          replace p176 := eq_true p176
          replace q176 := eq_true q176
          have p177 : 0 ≤ (5 : Int) := (by omega)
          have q177 : 5 < (t167.length : Int) := of_decide_eq_true (by first | (with_reducible assumption) | assumption)
          obtain ⟨ad177, e177, hx177_0⟩ := Kd.id_ (Kd.lb_ HO171.out).2.2 5 p177 q177
          obtain rfl : ad172 = ad177 := (by injection e177)
          (try simp only [show (5 : Int).toNat = 5 from rfl, Nat.reduceMul, Nat.reduceEqDiff, Go.Addr.add, ↓reduceIte] at hx177_0)
          have qi177 : (5 < t167.length) = True := eq_true (by omega)
          (try rw [show ((5 : Int)).toNat = 5 from rfl] at hx177_0)
          replace p177 := eq_true p177
          replace q177 := eq_true q177
          refine qf_ (n := 24) (S := fun w' => w'.cell? ad172 = some (.int .i64 (rd t167 0)) ∧ w'.cell? ⟨ad172.block, ad172.off + 1, none⟩ = some (.int .i64 (rd t167 1)) ∧ w'.cell? ⟨ad172.block, ad172.off + 2, none⟩ = some (.int .i64 (rd t167 2)) ∧ w'.cell? ⟨ad172.block, ad172.off + 3, none⟩ = some (.int .i64 (rd t167 3)) ∧ w'.cell? ⟨ad172.block, ad172.off + 4, none⟩ = some (.int .i64 (rd t167 4)) ∧ w'.cell? ⟨ad172.block, ad172.off + 5, none⟩ = some (.int .i64 (rd t167 5))) (ds := []) #[false, false, false, false, false, false, false, false, false, false, false, false, false, false, false, false, false, false, false, false, false, false, false, false] (by kernel_rfl) rfl rfl ⟨hx172_0, hx173_0, hx174_0, hx175_0, hx176_0, hx177_0⟩ (fun hHeld => ?_); refine xe_ hd_.tab8 hd_.zm_ (fun HT_ HW_ => ?_)
          generalize w19.drew = w20 at HO166 HO171 BK160 HB hx172_0 hx173_0 hx174_0 hx175_0 hx176_0 hx177_0 hHeld ⊢
          refine tb_ (i := 0) (N := some 32) (v := ?_) (a' := ?_) #[true, false, false, false, false, false, false, false, false, false, false, false, false, false, false, false, false, false, false, false, false, false, false, false] rfl rfl (vb_ HT_.out (by kernel_rfl)) (fun _ _ _ h => h) (Or.inl ⟨by rfl, ?_⟩) ?_ ?_
          rotate_left
          ·intro w'
           go_simp
           with_reducible rfl
          rotate_left
          ·simp only [Act.put, List.setIfInBounds_toArray, List.set_cons_zero, List.set_cons_succ, fb_, hb_]
           rfl
          refine tb_ (i := 1) (N := some 33) (v := ?_) (a' := ?_) #[true, true, false, false, false, false, false, false, false, false, false, false, false, false, false, false, false, false, false, false, false, false, false, false] rfl rfl (vb_ HT_.out (by kernel_rfl)) (fun _ _ _ h => h) (Or.inl ⟨by rfl, ?_⟩) ?_ ?_
          rotate_left
          ·intro w'
           go_simp
           with_reducible rfl
          rotate_left
          ·simp only [Act.put, List.setIfInBounds_toArray, List.set_cons_zero, List.set_cons_succ, fb_, hb_]
           rfl
          refine tb_ (i := 3) (N := some 35) (v := ?_) (a' := ?_) #[true, true, false, true, false, false, false, false, false, false, false, false, false, false, false, false, false, false, false, false, false, false, false, false] rfl rfl (vb_ HT_.out (by kernel_rfl)) (fun _ _ _ h => h) (Or.inl ⟨by rfl, ?_⟩) ?_ ?_
          rotate_left
          ·intro w'
           go_simp
           with_reducible rfl
          rotate_left
          ·simp only [Act.put, List.setIfInBounds_toArray, List.set_cons_zero, List.set_cons_succ, fb_, hb_]
           rfl
          refine tb_ (i := 4) (N := some 36) (v := ?_) (a' := ?_) #[true, true, false, true, true, false, false, false, false, false, false, false, false, false, false, false, false, false, false, false, false, false, false, false] rfl rfl (vb_ HT_.out (by kernel_rfl)) (fun _ _ _ h => h) (Or.inl ⟨by rfl, ?_⟩) ?_ ?_
          rotate_left
          ·intro w'
           go_simp
           with_reducible rfl
          rotate_left
          ·simp only [Act.put, List.setIfInBounds_toArray, List.set_cons_zero, List.set_cons_succ, fb_, hb_]
           rfl
          refine tb_ (i := 7) (N := some 39) (v := ?_) (a' := ?_) #[true, true, false, true, true, false, false, true, false, false, false, false, false, false, false, false, false, false, false, false, false, false, false, false] rfl rfl (vb_ HT_.out (by kernel_rfl)) (fun _ _ _ h => h) (Or.inl ⟨by rfl, ?_⟩) ?_ ?_
          rotate_left
          ·intro w'
           go_simp
           with_reducible rfl
          rotate_left
          ·simp only [Act.put, List.setIfInBounds_toArray, List.set_cons_zero, List.set_cons_succ, fb_, hb_]
           rfl
          refine tb_ (i := 8) (N := some 40) (v := ?_) (a' := ?_) #[true, true, false, true, true, false, false, true, true, false, false, false, false, false, false, false, false, false, false, false, false, false, false, false] rfl rfl (vb_ HT_.out (by kernel_rfl)) (fun _ _ _ h => h) (Or.inl ⟨by rfl, ?_⟩) ?_ ?_
          rotate_left
          ·intro w'
           go_simp
           with_reducible rfl
          rotate_left
          ·simp only [Act.put, List.setIfInBounds_toArray, List.set_cons_zero, List.set_cons_succ, fb_, hb_]
           rfl
          refine tb_ (i := 12) (N := some 44) (v := ?_) (a' := ?_) #[true, true, false, true, true, false, false, true, true, false, false, false, true, false, false, false, false, false, false, false, false, false, false, false] rfl rfl (vb_ HT_.out (by kernel_rfl)) (fun _ _ _ h => h) (Or.inl ⟨by rfl, ?_⟩) ?_ ?_
          rotate_left
          ·intro w'
           go_simp
           with_reducible rfl
          rotate_left
          ·simp only [Act.put, List.setIfInBounds_toArray, List.set_cons_zero, List.set_cons_succ, fb_, hb_]
           rfl
          refine tb_ (i := 13) (N := some 45) (v := ?_) (a' := ?_) #[true, true, false, true, true, false, false, true, true, false, false, false, true, true, false, false, false, false, false, false, false, false, false, false] rfl rfl (vb_ HT_.out (by kernel_rfl)) (fun _ _ _ h => h) (Or.inl ⟨by rfl, ?_⟩) ?_ ?_
          rotate_left
          ·intro w'
           go_simp
           with_reducible rfl
          rotate_left
          ·simp only [Act.put, List.setIfInBounds_toArray, List.set_cons_zero, List.set_cons_succ, fb_, hb_]
           rfl
          refine tb_ (i := 16) (N := some 48) (v := ?_) (a' := ?_) #[true, true, false, true, true, false, false, true, true, false, false, false, true, true, false, false, true, false, false, false, false, false, false, false] rfl rfl (vb_ HT_.out (by kernel_rfl)) (fun _ _ _ h => h) (Or.inl ⟨by rfl, ?_⟩) ?_ ?_
          rotate_left
          ·intro w'
           go_simp
           with_reducible rfl
          rotate_left
          ·simp only [Act.put, List.setIfInBounds_toArray, List.set_cons_zero, List.set_cons_succ, fb_, hb_]
           rfl
          refine tb_ (i := 17) (N := some 49) (v := ?_) (a' := ?_) #[true, true, false, true, true, false, false, true, true, false, false, false, true, true, false, false, true, true, false, false, false, false, false, false] rfl rfl (vb_ HT_.out (by kernel_rfl)) (fun _ _ _ h => h) (Or.inl ⟨by rfl, ?_⟩) ?_ ?_
          rotate_left
          ·intro w'
           go_simp
           with_reducible rfl
          rotate_left
          ·simp only [Act.put, List.setIfInBounds_toArray, List.set_cons_zero, List.set_cons_succ, fb_, hb_]
           rfl
          refine tb_ (i := 19) (N := some 51) (v := ?_) (a' := ?_) #[true, true, false, true, true, false, false, true, true, false, false, false, true, true, false, false, true, true, false, true, false, false, false, false] rfl rfl (vb_ HT_.out (by kernel_rfl)) (fun _ _ _ h => h) (Or.inl ⟨by rfl, ?_⟩) ?_ ?_
          rotate_left
          ·intro w'
           go_simp
           with_reducible rfl
          rotate_left
          ·simp only [Act.put, List.setIfInBounds_toArray, List.set_cons_zero, List.set_cons_succ, fb_, hb_]
           rfl
          refine tb_ (i := 20) (N := some 52) (v := ?_) (a' := ?_) #[true, true, false, true, true, false, false, true, true, false, false, false, true, true, false, false, true, true, false, true, true, false, false, false] rfl rfl (vb_ HT_.out (by kernel_rfl)) (fun _ _ _ h => h) (Or.inl ⟨by rfl, ?_⟩) ?_ ?_
          rotate_left
          ·intro w'
           go_simp
           with_reducible rfl
          rotate_left
          ·simp only [Act.put, List.setIfInBounds_toArray, List.set_cons_zero, List.set_cons_succ, fb_, hb_]
           rfl
          refine ee_ (i := 2) (N := some 34) (v := ?_) (a' := ?_) #[true, true, true, true, true, false, false, true, true, false, false, false, true, true, false, false, true, true, false, true, true, false, false, false] rfl rfl (ld_ HT_.out HW_.out (by kernel_rfl)) (fun _ _ _ h => h) (Or.inl ⟨by rfl, ?_⟩) hHeld ?_ ?_
          rotate_left
          ·rintro w' ⟨s0, s1, s2, s3, s4, s5⟩
           go_simp
           with_reducible rfl
          rotate_left
          ·simp only [Act.put, List.setIfInBounds_toArray, List.set_cons_zero, List.set_cons_succ, fb_, hb_]
           rfl
          refine ee_ (i := 5) (N := some 37) (v := ?_) (a' := ?_) #[true, true, true, true, true, true, false, true, true, false, false, false, true, true, false, false, true, true, false, true, true, false, false, false] rfl rfl (ld_ HT_.out HW_.out (by kernel_rfl)) (fun _ _ _ h => h) (Or.inl ⟨by rfl, ?_⟩) hHeld ?_ ?_
          rotate_left
          ·rintro w' ⟨s0, s1, s2, s3, s4, s5⟩
           go_simp
           with_reducible rfl
          rotate_left
          ·simp only [Act.put, List.setIfInBounds_toArray, List.set_cons_zero, List.set_cons_succ, fb_, hb_]
           rfl
          refine tb_ (i := 6) (N := some 38) (v := ?_) (a' := ?_) #[true, true, true, true, true, true, true, true, true, false, false, false, true, true, false, false, true, true, false, true, true, false, false, false] rfl rfl (vb_ HT_.out (by kernel_rfl)) (fun _ _ _ h => h) (Or.inl ⟨by rfl, ?_⟩) ?_ ?_
          rotate_left
          ·intro w'
           go_simp
           with_reducible rfl
          rotate_left
          ·simp only [Act.put, List.setIfInBounds_toArray, List.set_cons_zero, List.set_cons_succ, fb_, hb_]
           rfl
          refine ee_ (i := 9) (N := some 41) (v := ?_) (a' := ?_) #[true, true, true, true, true, true, true, true, true, true, false, false, true, true, false, false, true, true, false, true, true, false, false, false] rfl rfl (ld_ HT_.out HW_.out (by kernel_rfl)) (fun _ _ _ h => h) (Or.inl ⟨by rfl, ?_⟩) hHeld ?_ ?_
          rotate_left
          ·rintro w' ⟨s0, s1, s2, s3, s4, s5⟩
           go_simp
           with_reducible rfl
          rotate_left
          ·simp only [Act.put, List.setIfInBounds_toArray, List.set_cons_zero, List.set_cons_succ, fb_, hb_]
           rfl
          refine tb_ (i := 10) (N := some 42) (v := ?_) (a' := ?_) #[true, true, true, true, true, true, true, true, true, true, true, false, true, true, false, false, true, true, false, true, true, false, false, false] rfl rfl (vb_ HT_.out (by kernel_rfl)) (fun _ _ _ h => h) (Or.inl ⟨by rfl, ?_⟩) ?_ ?_
          rotate_left
          ·intro w'
           go_simp
           with_reducible rfl
          rotate_left
          ·simp only [Act.put, List.setIfInBounds_toArray, List.set_cons_zero, List.set_cons_succ, fb_, hb_]
           rfl
          refine tb_ (i := 11) (N := some 43) (v := ?_) (a' := ?_) #[true, true, true, true, true, true, true, true, true, true, true, true, true, true, false, false, true, true, false, true, true, false, false, false] rfl rfl (vb_ HT_.out (by kernel_rfl)) (fun _ _ _ h => h) (Or.inl ⟨by rfl, ?_⟩) ?_ ?_
          rotate_left
          ·intro w'
           go_simp
           with_reducible rfl
          rotate_left
          ·simp only [Act.put, List.setIfInBounds_toArray, List.set_cons_zero, List.set_cons_succ, fb_, hb_]
           rfl
          refine ee_ (i := 14) (N := some 46) (v := ?_) (a' := ?_) #[true, true, true, true, true, true, true, true, true, true, true, true, true, true, true, false, true, true, false, true, true, false, false, false] rfl rfl (ld_ HT_.out HW_.out (by kernel_rfl)) (fun _ _ _ h => h) (Or.inl ⟨by rfl, ?_⟩) hHeld ?_ ?_
          rotate_left
          ·rintro w' ⟨s0, s1, s2, s3, s4, s5⟩
           go_simp
           with_reducible rfl
          rotate_left
          ·simp only [Act.put, List.setIfInBounds_toArray, List.set_cons_zero, List.set_cons_succ, fb_, hb_]
           rfl
          refine tb_ (i := 15) (N := some 47) (v := ?_) (a' := ?_) #[true, true, true, true, true, true, true, true, true, true, true, true, true, true, true, true, true, true, false, true, true, false, false, false] rfl rfl (vb_ HT_.out (by kernel_rfl)) (fun _ _ _ h => h) (Or.inl ⟨by rfl, ?_⟩) ?_ ?_
          rotate_left
          ·intro w'
           go_simp
           with_reducible rfl
          rotate_left
          ·simp only [Act.put, List.setIfInBounds_toArray, List.set_cons_zero, List.set_cons_succ, fb_, hb_]
           rfl
          refine ee_ (i := 18) (N := some 50) (v := ?_) (a' := ?_) #[true, true, true, true, true, true, true, true, true, true, true, true, true, true, true, true, true, true, true, true, true, false, false, false] rfl rfl (ld_ HT_.out HW_.out (by kernel_rfl)) (fun _ _ _ h => h) (Or.inl ⟨by rfl, ?_⟩) hHeld ?_ ?_
          rotate_left
          ·rintro w' ⟨s0, s1, s2, s3, s4, s5⟩
           go_simp
           with_reducible rfl
          rotate_left
          ·simp only [Act.put, List.setIfInBounds_toArray, List.set_cons_zero, List.set_cons_succ, fb_, hb_]
           rfl
          refine ee_ (i := 21) (N := some 53) (v := ?_) (a' := ?_) #[true, true, true, true, true, true, true, true, true, true, true, true, true, true, true, true, true, true, true, true, true, true, false, false] rfl rfl (ld_ HT_.out HW_.out (by kernel_rfl)) (fun _ _ _ h => h) (Or.inl ⟨by rfl, ?_⟩) hHeld ?_ ?_
          rotate_left
          ·rintro w' ⟨s0, s1, s2, s3, s4, s5⟩
           go_simp
           with_reducible rfl
          rotate_left
          ·simp only [Act.put, List.setIfInBounds_toArray, List.set_cons_zero, List.set_cons_succ, fb_, hb_]
           rfl
          refine tb_ (i := 22) (N := some 54) (v := ?_) (a' := ?_) #[true, true, true, true, true, true, true, true, true, true, true, true, true, true, true, true, true, true, true, true, true, true, true, false] rfl rfl (vb_ HT_.out (by kernel_rfl)) (fun _ _ _ h => h) (Or.inl ⟨by rfl, ?_⟩) ?_ ?_
          rotate_left
          ·intro w'
           go_simp
           with_reducible rfl
          rotate_left
          ·simp only [Act.put, List.setIfInBounds_toArray, List.set_cons_zero, List.set_cons_succ, fb_, hb_]
           rfl
          refine one_ (i := 23) (N := none) #[true, true, true, true, true, true, true, true, true, true, true, true, true, true, true, true, true, true, true, true, true, true, true, true] rfl rfl (ge_ HT_.out (by kernel_rfl)) (by decide) (fun K hK => ?_)
          have hs22 : w20.cell? ⟨gb160, 0, none⟩ = some (.int .i64 0) := (ga_ BK160.out 0).trans rfl
          have hfs22 := ha_ BK160.out 0
          have hs23 : w20.cell? ⟨gb160, 1, none⟩ = some (.int .i64 0) := (ga_ BK160.out 1).trans rfl
          have hfs23 := ha_ BK160.out 1
          have hs24 : w20.cell? ⟨gb160, 2, none⟩ = some (.int .i64 0) := (ga_ BK160.out 2).trans rfl
          have hfs24 := ha_ BK160.out 2
          have hs25 : w20.cell? ⟨gb160, 3, none⟩ = some (.int .i64 0) := (ga_ BK160.out 3).trans rfl
          have hfs25 := ha_ BK160.out 3
          refine zi_ (w1 := ?_) (by rfl) rfl ?_ ?_
          rotate_left
          ·go_simp
           rfl
          refine hK.out _ _ ⟨((cell_far (p := ⟨gb160, _, none⟩) (by first | exact Kd.oa_ (Kd.R_ne HO171.out BK160.out (by decide)) | (rw [cb_]; exact Kd.oa_ (Kd.R_ne HO171.out BK160.out (by decide))) | (show (Addr.add _ _).block ≠ _; rw [cb_]; exact Kd.oa_ (Kd.R_ne HO171.out BK160.out (by decide))) | (dsimp only; exact Kd.oa_ (Kd.R_ne HO171.out BK160.out (by decide)))) _).trans (((cell_far (p := ⟨gb160, _, none⟩) (by first | exact Kd.oa_ (Kd.R_ne HO171.out BK160.out (by decide)) | (rw [cb_]; exact Kd.oa_ (Kd.R_ne HO171.out BK160.out (by decide))) | (show (Addr.add _ _).block ≠ _; rw [cb_]; exact Kd.oa_ (Kd.R_ne HO171.out BK160.out (by decide))) | (dsimp only; exact Kd.oa_ (Kd.R_ne HO171.out BK160.out (by decide)))) _).trans (((cell_far (p := ⟨gb160, _, none⟩) (by first | exact Kd.oa_ (Kd.R_ne HO171.out BK160.out (by decide)) | (rw [cb_]; exact Kd.oa_ (Kd.R_ne HO171.out BK160.out (by decide))) | (show (Addr.add _ _).block ≠ _; rw [cb_]; exact Kd.oa_ (Kd.R_ne HO171.out BK160.out (by decide))) | (dsimp only; exact Kd.oa_ (Kd.R_ne HO171.out BK160.out (by decide)))) _).trans (((cell_far (p := ⟨gb160, _, none⟩) (by first | exact Kd.oa_ (Kd.R_ne HO171.out BK160.out (by decide)) | (rw [cb_]; exact Kd.oa_ (Kd.R_ne HO171.out BK160.out (by decide))) | (show (Addr.add _ _).block ≠ _; rw [cb_]; exact Kd.oa_ (Kd.R_ne HO171.out BK160.out (by decide))) | (dsimp only; exact Kd.oa_ (Kd.R_ne HO171.out BK160.out (by decide)))) _).trans (hHeld.1)))))))), ((cell_far (p := ⟨gb160, _, none⟩) (by first | exact Kd.oa_ (Kd.R_ne HO171.out BK160.out (by decide)) | (rw [cb_]; exact Kd.oa_ (Kd.R_ne HO171.out BK160.out (by decide))) | (show (Addr.add _ _).block ≠ _; rw [cb_]; exact Kd.oa_ (Kd.R_ne HO171.out BK160.out (by decide))) | (dsimp only; exact Kd.oa_ (Kd.R_ne HO171.out BK160.out (by decide)))) _).trans (((cell_far (p := ⟨gb160, _, none⟩) (by first | exact Kd.oa_ (Kd.R_ne HO171.out BK160.out (by decide)) | (rw [cb_]; exact Kd.oa_ (Kd.R_ne HO171.out BK160.out (by decide))) | (show (Addr.add _ _).block ≠ _; rw [cb_]; exact Kd.oa_ (Kd.R_ne HO171.out BK160.out (by decide))) | (dsimp only; exact Kd.oa_ (Kd.R_ne HO171.out BK160.out (by decide)))) _).trans (((cell_far (p := ⟨gb160, _, none⟩) (by first | exact Kd.oa_ (Kd.R_ne HO171.out BK160.out (by decide)) | (rw [cb_]; exact Kd.oa_ (Kd.R_ne HO171.out BK160.out (by decide))) | (show (Addr.add _ _).block ≠ _; rw [cb_]; exact Kd.oa_ (Kd.R_ne HO171.out BK160.out (by decide))) | (dsimp only; exact Kd.oa_ (Kd.R_ne HO171.out BK160.out (by decide)))) _).trans (((cell_far (p := ⟨gb160, _, none⟩) (by first | exact Kd.oa_ (Kd.R_ne HO171.out BK160.out (by decide)) | (rw [cb_]; exact Kd.oa_ (Kd.R_ne HO171.out BK160.out (by decide))) | (show (Addr.add _ _).block ≠ _; rw [cb_]; exact Kd.oa_ (Kd.R_ne HO171.out BK160.out (by decide))) | (dsimp only; exact Kd.oa_ (Kd.R_ne HO171.out BK160.out (by decide)))) _).trans (hHeld.2.1)))))))), ((cell_far (p := ⟨gb160, _, none⟩) (by first | exact Kd.oa_ (Kd.R_ne HO171.out BK160.out (by decide)) | (rw [cb_]; exact Kd.oa_ (Kd.R_ne HO171.out BK160.out (by decide))) | (show (Addr.add _ _).block ≠ _; rw [cb_]; exact Kd.oa_ (Kd.R_ne HO171.out BK160.out (by decide))) | (dsimp only; exact Kd.oa_ (Kd.R_ne HO171.out BK160.out (by decide)))) _).trans (((cell_far (p := ⟨gb160, _, none⟩) (by first | exact Kd.oa_ (Kd.R_ne HO171.out BK160.out (by decide)) | (rw [cb_]; exact Kd.oa_ (Kd.R_ne HO171.out BK160.out (by decide))) | (show (Addr.add _ _).block ≠ _; rw [cb_]; exact Kd.oa_ (Kd.R_ne HO171.out BK160.out (by decide))) | (dsimp only; exact Kd.oa_ (Kd.R_ne HO171.out BK160.out (by decide)))) _).trans (((cell_far (p := ⟨gb160, _, none⟩) (by first | exact Kd.oa_ (Kd.R_ne HO171.out BK160.out (by decide)) | (rw [cb_]; exact Kd.oa_ (Kd.R_ne HO171.out BK160.out (by decide))) | (show (Addr.add _ _).block ≠ _; rw [cb_]; exact Kd.oa_ (Kd.R_ne HO171.out BK160.out (by decide))) | (dsimp only; exact Kd.oa_ (Kd.R_ne HO171.out BK160.out (by decide)))) _).trans (((cell_far (p := ⟨gb160, _, none⟩) (by first | exact Kd.oa_ (Kd.R_ne HO171.out BK160.out (by decide)) | (rw [cb_]; exact Kd.oa_ (Kd.R_ne HO171.out BK160.out (by decide))) | (show (Addr.add _ _).block ≠ _; rw [cb_]; exact Kd.oa_ (Kd.R_ne HO171.out BK160.out (by decide))) | (dsimp only; exact Kd.oa_ (Kd.R_ne HO171.out BK160.out (by decide)))) _).trans (hHeld.2.2.1)))))))), ((cell_far (p := ⟨gb160, _, none⟩) (by first | exact Kd.oa_ (Kd.R_ne HO171.out BK160.out (by decide)) | (rw [cb_]; exact Kd.oa_ (Kd.R_ne HO171.out BK160.out (by decide))) | (show (Addr.add _ _).block ≠ _; rw [cb_]; exact Kd.oa_ (Kd.R_ne HO171.out BK160.out (by decide))) | (dsimp only; exact Kd.oa_ (Kd.R_ne HO171.out BK160.out (by decide)))) _).trans (((cell_far (p := ⟨gb160, _, none⟩) (by first | exact Kd.oa_ (Kd.R_ne HO171.out BK160.out (by decide)) | (rw [cb_]; exact Kd.oa_ (Kd.R_ne HO171.out BK160.out (by decide))) | (show (Addr.add _ _).block ≠ _; rw [cb_]; exact Kd.oa_ (Kd.R_ne HO171.out BK160.out (by decide))) | (dsimp only; exact Kd.oa_ (Kd.R_ne HO171.out BK160.out (by decide)))) _).trans (((cell_far (p := ⟨gb160, _, none⟩) (by first | exact Kd.oa_ (Kd.R_ne HO171.out BK160.out (by decide)) | (rw [cb_]; exact Kd.oa_ (Kd.R_ne HO171.out BK160.out (by decide))) | (show (Addr.add _ _).block ≠ _; rw [cb_]; exact Kd.oa_ (Kd.R_ne HO171.out BK160.out (by decide))) | (dsimp only; exact Kd.oa_ (Kd.R_ne HO171.out BK160.out (by decide)))) _).trans (((cell_far (p := ⟨gb160, _, none⟩) (by first | exact Kd.oa_ (Kd.R_ne HO171.out BK160.out (by decide)) | (rw [cb_]; exact Kd.oa_ (Kd.R_ne HO171.out BK160.out (by decide))) | (show (Addr.add _ _).block ≠ _; rw [cb_]; exact Kd.oa_ (Kd.R_ne HO171.out BK160.out (by decide))) | (dsimp only; exact Kd.oa_ (Kd.R_ne HO171.out BK160.out (by decide)))) _).trans (hHeld.2.2.2.1)))))))), ((cell_far (p := ⟨gb160, _, none⟩) (by first | exact Kd.oa_ (Kd.R_ne HO171.out BK160.out (by decide)) | (rw [cb_]; exact Kd.oa_ (Kd.R_ne HO171.out BK160.out (by decide))) | (show (Addr.add _ _).block ≠ _; rw [cb_]; exact Kd.oa_ (Kd.R_ne HO171.out BK160.out (by decide))) | (dsimp only; exact Kd.oa_ (Kd.R_ne HO171.out BK160.out (by decide)))) _).trans (((cell_far (p := ⟨gb160, _, none⟩) (by first | exact Kd.oa_ (Kd.R_ne HO171.out BK160.out (by decide)) | (rw [cb_]; exact Kd.oa_ (Kd.R_ne HO171.out BK160.out (by decide))) | (show (Addr.add _ _).block ≠ _; rw [cb_]; exact Kd.oa_ (Kd.R_ne HO171.out BK160.out (by decide))) | (dsimp only; exact Kd.oa_ (Kd.R_ne HO171.out BK160.out (by decide)))) _).trans (((cell_far (p := ⟨gb160, _, none⟩) (by first | exact Kd.oa_ (Kd.R_ne HO171.out BK160.out (by decide)) | (rw [cb_]; exact Kd.oa_ (Kd.R_ne HO171.out BK160.out (by decide))) | (show (Addr.add _ _).block ≠ _; rw [cb_]; exact Kd.oa_ (Kd.R_ne HO171.out BK160.out (by decide))) | (dsimp only; exact Kd.oa_ (Kd.R_ne HO171.out BK160.out (by decide)))) _).trans (((cell_far (p := ⟨gb160, _, none⟩) (by first | exact Kd.oa_ (Kd.R_ne HO171.out BK160.out (by decide)) | (rw [cb_]; exact Kd.oa_ (Kd.R_ne HO171.out BK160.out (by decide))) | (show (Addr.add _ _).block ≠ _; rw [cb_]; exact Kd.oa_ (Kd.R_ne HO171.out BK160.out (by decide))) | (dsimp only; exact Kd.oa_ (Kd.R_ne HO171.out BK160.out (by decide)))) _).trans (hHeld.2.2.2.2.1)))))))), ((cell_far (p := ⟨gb160, _, none⟩) (by first | exact Kd.oa_ (Kd.R_ne HO171.out BK160.out (by decide)) | (rw [cb_]; exact Kd.oa_ (Kd.R_ne HO171.out BK160.out (by decide))) | (show (Addr.add _ _).block ≠ _; rw [cb_]; exact Kd.oa_ (Kd.R_ne HO171.out BK160.out (by decide))) | (dsimp only; exact Kd.oa_ (Kd.R_ne HO171.out BK160.out (by decide)))) _).trans (((cell_far (p := ⟨gb160, _, none⟩) (by first | exact Kd.oa_ (Kd.R_ne HO171.out BK160.out (by decide)) | (rw [cb_]; exact Kd.oa_ (Kd.R_ne HO171.out BK160.out (by decide))) | (show (Addr.add _ _).block ≠ _; rw [cb_]; exact Kd.oa_ (Kd.R_ne HO171.out BK160.out (by decide))) | (dsimp only; exact Kd.oa_ (Kd.R_ne HO171.out BK160.out (by decide)))) _).trans (((cell_far (p := ⟨gb160, _, none⟩) (by first | exact Kd.oa_ (Kd.R_ne HO171.out BK160.out (by decide)) | (rw [cb_]; exact Kd.oa_ (Kd.R_ne HO171.out BK160.out (by decide))) | (show (Addr.add _ _).block ≠ _; rw [cb_]; exact Kd.oa_ (Kd.R_ne HO171.out BK160.out (by decide))) | (dsimp only; exact Kd.oa_ (Kd.R_ne HO171.out BK160.out (by decide)))) _).trans (((cell_far (p := ⟨gb160, _, none⟩) (by first | exact Kd.oa_ (Kd.R_ne HO171.out BK160.out (by decide)) | (rw [cb_]; exact Kd.oa_ (Kd.R_ne HO171.out BK160.out (by decide))) | (show (Addr.add _ _).block ≠ _; rw [cb_]; exact Kd.oa_ (Kd.R_ne HO171.out BK160.out (by decide))) | (dsimp only; exact Kd.oa_ (Kd.R_ne HO171.out BK160.out (by decide)))) _).trans (hHeld.2.2.2.2.2))))))))⟩ (fun hHeld => ?_)
          clear hK K
          refine hh_ (og_ HT_.out (by kernel_rfl)) ?_
          have hcz26_0 : w20.cell? ⟨gb160, 0, none⟩ = some (.int .i64 0) := (ga_ BK160.out 0).trans rfl
          have hcz26_1 : w20.cell? ⟨gb160, 1, none⟩ = some (.int .i64 0) := (ga_ BK160.out 1).trans rfl
          have hcz26_2 : w20.cell? ⟨gb160, 2, none⟩ = some (.int .i64 0) := (ga_ BK160.out 2).trans rfl
          have hcz26_3 : w20.cell? ⟨gb160, 3, none⟩ = some (.int .i64 0) := (ga_ BK160.out 3).trans rfl
          have hfz26_0 := ha_ BK160.out 0
          have hfz26_1 := ha_ BK160.out 1
          have hfz26_2 := ha_ BK160.out 2
          have hfz26_3 := ha_ BK160.out 3
          try go_wp2_with (first | ((with_reducible refine la_ (f := 9) rfl ?_); refine wb_ (some 56) rfl rfl Tryd.func9 (by kernel_rfl) rfl #[.agg #[.int .i64 (rd t167 0), .int .i64 (wrap64 ((wrap64 ((wrap64 ((rd t167 1) * 1024)) + (wrap64 ((rd t167 2) * 32)))) + (rd t167 3))), .int .i64 (rd t167 4), .int .i64 (rd t167 5)]] rfl (by (try simp only [List.map_toArray, List.map_cons, List.map_nil]); first | done | rfl | (simp only [List.length_drop, List.length_take]; rfl)) ?_; (with_reducible refine (xc_.calls (rd t167 0) (wrap64 ((wrap64 ((wrap64 ((rd t167 1) * 1024)) + (wrap64 ((rd t167 2) * 32)))) + (rd t167 3))) (rd t167 4) (rd t167 5) true _ A13.out).mono ?_); rintro e w27 ⟨rfl, hb⟩; refine ⟨_, rfl, ?_⟩; have n0_ := ba_.mk (Kd.vc_ (by (with_reducible repeat (first | apply Kd.ta_ | apply Kd.ua_ | apply Kd.db_)); exact (Kd.uc_ (Kd.te_ (p := ⟨gb160, 3, none⟩) (Kd.te_ (p := ⟨gb160, 2, none⟩) (Kd.te_ (p := ⟨gb160, 1, none⟩) (Kd.te_ (p := ⟨gb160, 0, none⟩) (Kd.mg_ HO166.out BK160.out (by decide)) (fun _ hk => hk.2) (.int .i64 (rd t167 0))) (fun _ hk => hk.2) (.int .i64 (wrap64 ((wrap64 ((wrap64 ((rd t167 1) * 1024)) + (wrap64 ((rd t167 2) * 32)))) + (rd t167 3))))) (fun _ hk => hk.2) (.int .i64 (rd t167 4))) (fun _ hk => hk.2) (.int .i64 (rd t167 5))) (fun _ h_ => h_.1))) hb); have n1_ := ba_.mk (Kd.vc_ (by (with_reducible repeat (first | apply Kd.ta_ | apply Kd.ua_ | apply Kd.db_)); exact (Kd.uc_ (Kd.te_ (p := ⟨gb160, 3, none⟩) (Kd.te_ (p := ⟨gb160, 2, none⟩) (Kd.te_ (p := ⟨gb160, 1, none⟩) (Kd.te_ (p := ⟨gb160, 0, none⟩) (Kd.mg_ HO171.out BK160.out (by decide)) (fun _ hk => hk.2) (.int .i64 (rd t167 0))) (fun _ hk => hk.2) (.int .i64 (wrap64 ((wrap64 ((wrap64 ((rd t167 1) * 1024)) + (wrap64 ((rd t167 2) * 32)))) + (rd t167 3))))) (fun _ hk => hk.2) (.int .i64 (rd t167 4))) (fun _ hk => hk.2) (.int .i64 (rd t167 5))) (fun _ h_ => h_.1))) hb); have n2_ := ba_.mk (zb_ (g := gb160) (o := .cells #[.int .i64 (rd t167 0), .int .i64 (wrap64 ((wrap64 ((wrap64 ((rd t167 1) * 1024)) + (wrap64 ((rd t167 2) * 32)))) + (rd t167 3))), .int .i64 (rd t167 4), .int .i64 (rd t167 5)] 26 (0, 0)) (by (with_reducible repeat (first | refine ra_ ?_ _ | refine ab_ ?_ | refine qa_ ?_ _)); refine oc_ (cs := #[.int .i64 (rd t167 0), .int .i64 (wrap64 ((wrap64 ((wrap64 ((rd t167 1) * 1024)) + (wrap64 ((rd t167 2) * 32)))) + (rd t167 3))), .int .i64 (rd t167 4), .int .i64 0]) ?_ 3 _ rfl; (with_reducible repeat (first | refine ra_ ?_ _ | refine ab_ ?_ | refine qa_ ?_ _)); refine oc_ (cs := #[.int .i64 (rd t167 0), .int .i64 (wrap64 ((wrap64 ((wrap64 ((rd t167 1) * 1024)) + (wrap64 ((rd t167 2) * 32)))) + (rd t167 3))), .int .i64 0, .int .i64 0]) ?_ 2 _ rfl; (with_reducible repeat (first | refine ra_ ?_ _ | refine ab_ ?_ | refine qa_ ?_ _)); refine oc_ (cs := #[.int .i64 (rd t167 0), .int .i64 0, .int .i64 0, .int .i64 0]) ?_ 1 _ rfl; (with_reducible repeat (first | refine ra_ ?_ _ | refine ab_ ?_ | refine qa_ ?_ _)); refine oc_ (cs := #[.int .i64 0, .int .i64 0, .int .i64 0, .int .i64 0]) ?_ 0 _ rfl; (with_reducible repeat (first | refine ra_ ?_ _ | refine ab_ ?_ | refine qa_ ?_ _)); exact BK160.out) hb); have n3_ := ba_.mk (pa_ (by repeat (first | (with_reducible first | exact HB.out | apply da_ | apply aa_ | apply ca_ | refine ia_ ?_ GE160.out) | exact HB.out)) hb); clear HO166; clear HO171; clear BK160; clear HB; have HO166 := n0_; have HO171 := n1_; have BK160 := n2_; have HB := n3_; clear n0_ n1_ n2_ n3_; (try clear hb); (try clear hb2); (try clear hk); (try clear hi); have hcz28_0 : w27.cell? ⟨gb160, 0, none⟩ = some (.int .i64 (rd t167 0)) := (ga_ BK160.out 0).trans rfl; have hcz28_1 : w27.cell? ⟨gb160, 1, none⟩ = some (.int .i64 (wrap64 ((wrap64 ((wrap64 ((rd t167 1) * 1024)) + (wrap64 ((rd t167 2) * 32)))) + (rd t167 3)))) := (ga_ BK160.out 1).trans rfl; have hcz28_2 : w27.cell? ⟨gb160, 2, none⟩ = some (.int .i64 (rd t167 4)) := (ga_ BK160.out 2).trans rfl; have hcz28_3 : w27.cell? ⟨gb160, 3, none⟩ = some (.int .i64 (rd t167 5)) := (ga_ BK160.out 3).trans rfl; have hfz28_0 := ha_ BK160.out 0; have hfz28_1 := ha_ BK160.out 1; have hfz28_2 := ha_ BK160.out 2; have hfz28_3 := ha_ BK160.out 3))
          refine bodyPost_ret (vf_ rfl _ _ gb160 26 #[.int .i64 (rd t167 0), .int .i64 (wrap64 ((wrap64 ((wrap64 ((rd t167 1) * 1024)) + (wrap64 ((rd t167 2) * 32)))) + (rd t167 3))), .int .i64 (rd t167 4), .int .i64 (rd t167 5)] (0, 0) _ rfl (by (with_reducible repeat (first | refine ra_ ?_ _ | refine ab_ ?_ | refine qa_ ?_ _)); refine oc_ (cs := #[.int .i64 (rd t167 0), .int .i64 (wrap64 ((wrap64 ((wrap64 ((rd t167 1) * 1024)) + (wrap64 ((rd t167 2) * 32)))) + (rd t167 3))), .int .i64 (rd t167 4), .int .i64 (rd t167 5)]) ?_ 3 _ rfl; (with_reducible repeat (first | refine ra_ ?_ _ | refine ab_ ?_ | refine qa_ ?_ _)); refine oc_ (cs := #[.int .i64 (rd t167 0), .int .i64 (wrap64 ((wrap64 ((wrap64 ((rd t167 1) * 1024)) + (wrap64 ((rd t167 2) * 32)))) + (rd t167 3))), .int .i64 (rd t167 4), .int .i64 (rd t167 5)]) ?_ 2 _ rfl; (with_reducible repeat (first | refine ra_ ?_ _ | refine ab_ ?_ | refine qa_ ?_ _)); refine oc_ (cs := #[.int .i64 (rd t167 0), .int .i64 (wrap64 ((wrap64 ((wrap64 ((rd t167 1) * 1024)) + (wrap64 ((rd t167 2) * 32)))) + (rd t167 3))), .int .i64 (rd t167 4), .int .i64 (rd t167 5)]) ?_ 1 _ rfl; (with_reducible repeat (first | refine ra_ ?_ _ | refine ab_ ?_ | refine qa_ ?_ _)); refine oc_ (cs := #[.int .i64 (rd t167 0), .int .i64 (wrap64 ((wrap64 ((wrap64 ((rd t167 1) * 1024)) + (wrap64 ((rd t167 2) * 32)))) + (rd t167 3))), .int .i64 (rd t167 4), .int .i64 (rd t167 5)]) ?_ 0 _ rfl; (with_reducible repeat (first | refine ra_ ?_ _ | refine ab_ ?_ | refine qa_ ?_ _)); exact BK160.out) Tryd.underlying26 rfl (by kernel_rfl)) rfl ?_
          exact ⟨by first | rfl | (simp [xa_, ya_] <;> rfl) | (simp [*, xa_, ya_] <;> rfl), by repeat (first | (with_reducible first | exact HB.out | apply da_ | apply aa_ | apply ca_ | refine ia_ ?_ GE160.out) | exact HB.out)⟩
         ·replace c14 := Bool.eq_false_iff.mpr c14
          subst c14
          have H1 : (some (0, 0, 0, 0, 0, 2)) = some (r1, r2, r3, r4, r5, r6) := by rw [if_neg (show ¬ (false = true) by decide)] at H; exact H
          clear H
          have H := H1
          clear H1
          simp only [Option.some.injEq, Prod.mk.injEq] at H
          obtain ⟨rfl, rfl, rfl, rfl, rfl, rfl⟩ := H
          go_enter Tryd.func19, Tryd.ntmps19
          try go_wp2_with (first | ((with_reducible refine hc_ (N := 2) rfl ?_); refine ed_ ?hg (N := 2) ?hd (cs := #[.int .i64 0, .int .i64 0, .int .i64 0, .int .i64 0]) (t := 26) ?hr ?_; (case hd => rfl); (case hg => rfl); (case hr => first | (go_simp; done) | (go_simp; rfl)); intro gb160 hg w29 hbox hb; have n0_ := ba_.mk (pa_ (by repeat (first | (with_reducible first | exact HB.out | apply da_ | apply aa_ | apply ca_) | exact HB.out)) hb); have n1_ := ba_.mk (hbox); have n2_ := ba_.mk ((by rw [hg]; exact (wa_ (by repeat (first | (with_reducible first | exact HB.out | apply da_ | apply aa_ | apply ca_) | exact HB.out))) : w.heap.size ≤ gb160)); have n3_ := ba_.mk ((by rw [hg]; exact (wa_ (by repeat (first | (with_reducible first | exact HB.out | apply da_ | apply aa_ | apply ca_) | exact HB.out))) : w.heap.size ≤ gb160)); clear HB; have HB := n0_; have BK160 := n1_; have GW160 := n2_; have GE160 := n3_; clear n0_ n1_ n2_ n3_; clear hb hbox hg) | ((with_reducible refine la_ (f := 30) rfl ?_); refine wb_ (some 10) rfl rfl Tryd.func30 (by kernel_rfl) rfl #[.string a0] rfl (by (try simp only [List.map_toArray, List.map_cons, List.map_nil]); first | done | rfl | (simp only [List.length_drop, List.length_take]; rfl)) ?_; (with_reducible refine (vd_.calls a0 t161 t162 _ A2.out).mono ?_); rintro e w30 ⟨rfl, hb⟩; refine ⟨_, rfl, ?_⟩; have n0_ := ba_.mk (zb_ (g := gb160) (o := .cells #[.int .i64 0, .int .i64 0, .int .i64 0, .int .i64 0] 26 (0, 0)) (by (with_reducible repeat (first | refine ra_ ?_ _ | refine ab_ ?_ | refine qa_ ?_ _)); exact BK160.out) hb); have n1_ := ba_.mk (pa_ (by repeat (first | (with_reducible first | exact HB.out | apply da_ | apply aa_ | apply ca_ | refine ia_ ?_ GE160.out) | exact HB.out)) hb); clear BK160; clear HB; have BK160 := n0_; have HB := n1_; clear n0_ n1_; (try clear hb); (try clear hb2); (try clear hk); (try clear hi)) | ((with_reducible refine la_ (f := 31) rfl ?_); refine wb_ (some 19) rfl rfl Tryd.func31 (by kernel_rfl) rfl #[.string t161] rfl (by (try simp only [List.map_toArray, List.map_cons, List.map_nil]); first | done | rfl | (simp only [List.length_drop, List.length_take]; rfl)) ?_; (with_reducible refine (cg_.calls t161 t163 t164 _ A4.out).mono ?_); rintro e w31 ⟨v165, rfl, ho0, hb⟩; refine ⟨_, rfl, ?_⟩; have n0_ := ba_.mk (Kd.wc_ ho0 (wa_ (by repeat (first | (with_reducible first | exact HB.out | apply da_ | apply aa_ | apply ca_ | refine ia_ ?_ GE160.out) | exact HB.out)))); have n1_ := ba_.mk (zb_ (g := gb160) (o := .cells #[.int .i64 0, .int .i64 0, .int .i64 0, .int .i64 0] 26 (0, 0)) (by (with_reducible repeat (first | refine ra_ ?_ _ | refine ab_ ?_ | refine qa_ ?_ _)); exact BK160.out) hb); have n2_ := ba_.mk (pa_ (by repeat (first | (with_reducible first | exact HB.out | apply da_ | apply aa_ | apply ca_ | refine ia_ ?_ GE160.out) | exact HB.out)) hb); clear BK160; clear HB; have HO166 := n0_; have BK160 := n1_; have HB := n2_; clear n0_ n1_ n2_; (try clear hb); (try clear hb2); (try clear hk); (try clear hi); (try clear ho0); obtain ⟨Ao32, co32, eo32⟩ := Kd.nc_ HO166.out; subst eo32) | ((with_reducible refine la_ (f := 32) rfl ?_); refine wb_ (some 24) rfl rfl Tryd.func32 (by kernel_rfl) rfl #[.slice Ao32 t163.length co32] rfl (by (try simp only [List.map_toArray, List.map_cons, List.map_nil]); first | done | rfl | (simp only [List.length_drop, List.length_take]; rfl)) ?_; (with_reducible refine (xj_.calls _ _ t163 t167 t168 t169 _ ?side1 ?side2 A5.out).mono ?_); (case side1 => repeat (first | exact (Kd.lb_ HO166.out).2.2 | (with_reducible refine Kd.zc_ ?_ _) | (with_reducible refine Kd.ad_ ?_ _) | (with_reducible refine Kd.md_ ?_))); (case side2 => exact (Kd.lb_ HO166.out).2.1); rintro e w33 ⟨v170, rfl, ho0, hb⟩; refine ⟨_, rfl, ?_⟩; have n0_ := ba_.mk (Kd.gd_ (by (with_reducible repeat (first | apply Kd.ta_ | apply Kd.ua_ | apply Kd.db_)); exact HO166.out) (Kd.be_ ho0) hb); have n1_ := ba_.mk (Kd.wc_ (Kd.yd_ ho0 (Kd.R_lt (by (with_reducible repeat (first | apply Kd.ta_ | apply Kd.ua_ | apply Kd.db_)); exact HO166.out))) (wa_ (by repeat (first | (with_reducible first | exact HB.out | apply da_ | apply aa_ | apply ca_ | refine ia_ ?_ GE160.out) | exact HB.out)))); have n2_ := ba_.mk (zb_ (g := gb160) (o := .cells #[.int .i64 0, .int .i64 0, .int .i64 0, .int .i64 0] 26 (0, 0)) (by (with_reducible repeat (first | refine ra_ ?_ _ | refine ab_ ?_ | refine qa_ ?_ _)); exact BK160.out) hb); have n3_ := ba_.mk (pa_ (by repeat (first | (with_reducible first | exact HB.out | apply da_ | apply aa_ | apply ca_ | refine ia_ ?_ GE160.out) | exact HB.out)) hb); clear HO166; clear BK160; clear HB; have HO166 := n0_; have HO171 := n1_; have BK160 := n2_; have HB := n3_; clear n0_ n1_ n2_ n3_; (try clear hb); (try clear hb2); (try clear hk); (try clear hi); (try clear ho0)))
          have n0_ := ba_.mk (Kd.db_ HO166.out)
          have n1_ := ba_.mk (Kd.db_ HO171.out)
          have n2_ := ba_.mk (ab_ BK160.out)
          have n3_ := ba_.mk (ca_ HB.out)
          clear HO166
          clear HO171
          clear BK160
          clear HB
          have HO166 := n0_
          have HO171 := n1_
          have BK160 := n2_
          have HB := n3_
          clear n0_ n1_ n2_ n3_
          obtain ⟨Ao35, co35, eo35⟩ := Kd.nc_ HO171.out
          (first | subst eo35 | (injection eo35 with f1_ f2_ f3_; have f4_ := f1_.symm; have f5_ := f3_.symm; clear f1_ f2_ f3_; subst f4_; subst f5_))
          have p172 : 0 ≤ (0 : Int) := (by omega)
          have q172 : 0 < (t167.length : Int) := of_decide_eq_true (by first | (with_reducible assumption) | assumption)
          obtain ⟨ad172, e172, hx172_0⟩ := Kd.id_ (Kd.lb_ HO171.out).2.2 0 p172 q172
          cases e172
          have qi172 : (0 < t167.length) = True := eq_true (by omega)
          (try rw [show ((0 : Int)).toNat = 0 from rfl] at hx172_0)
          (try rw [Addr.add_zero'] at hx172_0)
          replace p172 := eq_true p172
          replace q172 := eq_true q172
          have p173 : 0 ≤ (1 : Int) := (by omega)
          have q173 : 1 < (t167.length : Int) := of_decide_eq_true (by first | (with_reducible assumption) | assumption)
          obtain ⟨ad173, e173, hx173_0⟩ := Kd.id_ (Kd.lb_ HO171.out).2.2 1 p173 q173
          obtain rfl : ad172 = ad173 := (by injection e173)
          (try simp only [show (1 : Int).toNat = 1 from rfl, Nat.reduceMul, Nat.reduceEqDiff, Go.Addr.add, ↓reduceIte] at hx173_0)
          have qi173 : (1 < t167.length) = True := eq_true (by omega)
          (try rw [show ((1 : Int)).toNat = 1 from rfl] at hx173_0)
          replace p173 := eq_true p173
          replace q173 := eq_true q173
          have p174 : 0 ≤ (2 : Int) := (by omega)
          have q174 : 2 < (t167.length : Int) := of_decide_eq_true (by first | (with_reducible assumption) | assumption)
          obtain ⟨ad174, e174, hx174_0⟩ := Kd.id_ (Kd.lb_ HO171.out).2.2 2 p174 q174
          obtain rfl : ad172 = ad174 := (by injection e174)
          (try simp only [show (2 : Int).toNat = 2 from rfl, Nat.reduceMul, Nat.reduceEqDiff, Go.Addr.add, ↓reduceIte] at hx174_0)
          have qi174 : (2 < t167.length) = True := eq_true (by omega)
          (try rw [show ((2 : Int)).toNat = 2 from rfl] at hx174_0)
          replace p174 := eq_true p174
          replace q174 := eq_true q174
          have p175 : 0 ≤ (3 : Int) := (by omega)
          have q175 : 3 < (t167.length : Int) := of_decide_eq_true (by first | (with_reducible assumption) | assumption)
          obtain ⟨ad175, e175, hx175_0⟩ := Kd.id_ (Kd.lb_ HO171.out).2.2 3 p175 q175
          obtain rfl : ad172 = ad175 := (by injection e175)
          (try simp only [show (3 : Int).toNat = 3 from rfl, Nat.reduceMul, Nat.reduceEqDiff, Go.Addr.add, ↓reduceIte] at hx175_0)
          have qi175 : (3 < t167.length) = True := eq_true (by omega)
          (try rw [show ((3 : Int)).toNat = 3 from rfl] at hx175_0)
          replace p175 := eq_true p175
          replace q175 := eq_true q175
          have p176 : 0 ≤ (4 : Int) := (by omega)
          have q176 : 4 < (t167.length : Int) := of_decide_eq_true (by first | (with_reducible assumption) | assumption)
          obtain ⟨ad176, e176, hx176_0⟩ := Kd.id_ (Kd.lb_ HO171.out).2.2 4 p176 q176
          obtain rfl : ad172 = ad176 := (by injection e176)
          (try simp only [show (4 : Int).toNat = 4 from rfl, Nat.reduceMul, Nat.reduceEqDiff, Go.Addr.add, ↓reduceIte] at hx176_0)
          have qi176 : (4 < t167.length) = True := eq_true (by omega)
          (try rw [show ((4 : Int)).toNat = 4 from rfl] at hx176_0)
          replace p176 := eq_true p176
          replace q176 := eq_true q176
          have p177 : 0 ≤ (5 : Int) := (by omega)
          have q177 : 5 < (t167.length : Int) := of_decide_eq_true (by first | (with_reducible assumption) | assumption)
          obtain ⟨ad177, e177, hx177_0⟩ := Kd.id_ (Kd.lb_ HO171.out).2.2 5 p177 q177
          obtain rfl : ad172 = ad177 := (by injection e177)
          (try simp only [show (5 : Int).toNat = 5 from rfl, Nat.reduceMul, Nat.reduceEqDiff, Go.Addr.add, ↓reduceIte] at hx177_0)
          have qi177 : (5 < t167.length) = True := eq_true (by omega)
          (try rw [show ((5 : Int)).toNat = 5 from rfl] at hx177_0)
          replace p177 := eq_true p177
          replace q177 := eq_true q177
          refine qf_ (n := 24) (S := fun w' => w'.cell? ad172 = some (.int .i64 (rd t167 0)) ∧ w'.cell? ⟨ad172.block, ad172.off + 1, none⟩ = some (.int .i64 (rd t167 1)) ∧ w'.cell? ⟨ad172.block, ad172.off + 2, none⟩ = some (.int .i64 (rd t167 2)) ∧ w'.cell? ⟨ad172.block, ad172.off + 3, none⟩ = some (.int .i64 (rd t167 3)) ∧ w'.cell? ⟨ad172.block, ad172.off + 4, none⟩ = some (.int .i64 (rd t167 4)) ∧ w'.cell? ⟨ad172.block, ad172.off + 5, none⟩ = some (.int .i64 (rd t167 5))) (ds := []) #[false, false, false, false, false, false, false, false, false, false, false, false, false, false, false, false, false, false, false, false, false, false, false, false] (by kernel_rfl) rfl rfl ⟨hx172_0, hx173_0, hx174_0, hx175_0, hx176_0, hx177_0⟩ (fun hHeld => ?_); refine xe_ hd_.tab8 hd_.zm_ (fun HT_ HW_ => ?_)
          generalize w33.drew = w34 at HO166 HO171 BK160 HB hx172_0 hx173_0 hx174_0 hx175_0 hx176_0 hx177_0 hHeld ⊢
          refine tb_ (i := 0) (N := some 32) (v := ?_) (a' := ?_) #[true, false, false, false, false, false, false, false, false, false, false, false, false, false, false, false, false, false, false, false, false, false, false, false] rfl rfl (vb_ HT_.out (by kernel_rfl)) (fun _ _ _ h => h) (Or.inl ⟨by rfl, ?_⟩) ?_ ?_
          rotate_left
          ·intro w'
           go_simp
           with_reducible rfl
          rotate_left
          ·simp only [Act.put, List.setIfInBounds_toArray, List.set_cons_zero, List.set_cons_succ, fb_, hb_]
           rfl
          refine tb_ (i := 1) (N := some 33) (v := ?_) (a' := ?_) #[true, true, false, false, false, false, false, false, false, false, false, false, false, false, false, false, false, false, false, false, false, false, false, false] rfl rfl (vb_ HT_.out (by kernel_rfl)) (fun _ _ _ h => h) (Or.inl ⟨by rfl, ?_⟩) ?_ ?_
          rotate_left
          ·intro w'
           go_simp
           with_reducible rfl
          rotate_left
          ·simp only [Act.put, List.setIfInBounds_toArray, List.set_cons_zero, List.set_cons_succ, fb_, hb_]
           rfl
          refine tb_ (i := 3) (N := some 35) (v := ?_) (a' := ?_) #[true, true, false, true, false, false, false, false, false, false, false, false, false, false, false, false, false, false, false, false, false, false, false, false] rfl rfl (vb_ HT_.out (by kernel_rfl)) (fun _ _ _ h => h) (Or.inl ⟨by rfl, ?_⟩) ?_ ?_
          rotate_left
          ·intro w'
           go_simp
           with_reducible rfl
          rotate_left
          ·simp only [Act.put, List.setIfInBounds_toArray, List.set_cons_zero, List.set_cons_succ, fb_, hb_]
           rfl
          refine tb_ (i := 4) (N := some 36) (v := ?_) (a' := ?_) #[true, true, false, true, true, false, false, false, false, false, false, false, false, false, false, false, false, false, false, false, false, false, false, false] rfl rfl (vb_ HT_.out (by kernel_rfl)) (fun _ _ _ h => h) (Or.inl ⟨by rfl, ?_⟩) ?_ ?_
          rotate_left
          ·intro w'
           go_simp
           with_reducible rfl
          rotate_left
          ·simp only [Act.put, List.setIfInBounds_toArray, List.set_cons_zero, List.set_cons_succ, fb_, hb_]
           rfl
          refine tb_ (i := 7) (N := some 39) (v := ?_) (a' := ?_) #[true, true, false, true, true, false, false, true, false, false, false, false, false, false, false, false, false, false, false, false, false, false, false, false] rfl rfl (vb_ HT_.out (by kernel_rfl)) (fun _ _ _ h => h) (Or.inl ⟨by rfl, ?_⟩) ?_ ?_
          rotate_left
          ·intro w'
           go_simp
           with_reducible rfl
          rotate_left
          ·simp only [Act.put, List.setIfInBounds_toArray, List.set_cons_zero, List.set_cons_succ, fb_, hb_]
           rfl
          refine tb_ (i := 8) (N := some 40) (v := ?_) (a' := ?_) #[true, true, false, true, true, false, false, true, true, false, false, false, false, false, false, false, false, false, false, false, false, false, false, false] rfl rfl (vb_ HT_.out (by kernel_rfl)) (fun _ _ _ h => h) (Or.inl ⟨by rfl, ?_⟩) ?_ ?_
          rotate_left
          ·intro w'
           go_simp
           with_reducible rfl
          rotate_left
          ·simp only [Act.put, List.setIfInBounds_toArray, List.set_cons_zero, List.set_cons_succ, fb_, hb_]
           rfl
          refine tb_ (i := 12) (N := some 44) (v := ?_) (a' := ?_) #[true, true, false, true, true, false, false, true, true, false, false, false, true, false, false, false, false, false, false, false, false, false, false, false] rfl rfl (vb_ HT_.out (by kernel_rfl)) (fun _ _ _ h => h) (Or.inl ⟨by rfl, ?_⟩) ?_ ?_
          rotate_left
          ·intro w'
           go_simp
           with_reducible rfl
          rotate_left
          ·simp only [Act.put, List.setIfInBounds_toArray, List.set_cons_zero, List.set_cons_succ, fb_, hb_]
           rfl
          refine tb_ (i := 13) (N := some 45) (v := ?_) (a' := ?_) #[true, true, false, true, true, false, false, true, true, false, false, false, true, true, false, false, false, false, false, false, false, false, false, false] rfl rfl (vb_ HT_.out (by kernel_rfl)) (fun _ _ _ h => h) (Or.inl ⟨by rfl, ?_⟩) ?_ ?_
          rotate_left
          ·intro w'
           go_simp
           with_reducible rfl
          rotate_left
          ·simp only [Act.put, List.setIfInBounds_toArray, List.set_cons_zero, List.set_cons_succ, fb_, hb_]
           rfl
          refine tb_ (i := 16) (N := some 48) (v := ?_) (a' := ?_) #[true, true, false, true, true, false, false, true, true, false, false, false, true, true, false, false, true, false, false, false, false, false, false, false] rfl rfl (vb_ HT_.out (by kernel_rfl)) (fun _ _ _ h => h) (Or.inl ⟨by rfl, ?_⟩) ?_ ?_
          rotate_left
          ·intro w'
           go_simp
           with_reducible rfl
          rotate_left
          ·simp only [Act.put, List.setIfInBounds_toArray, List.set_cons_zero, List.set_cons_succ, fb_, hb_]
           rfl
          refine tb_ (i := 17) (N := some 49) (v := ?_) (a' := ?_) #[true, true, false, true, true, false, false, true, true, false, false, false, true, true, false, false, true, true, false, false, false, false, false, false] rfl rfl (vb_ HT_.out (by kernel_rfl)) (fun _ _ _ h => h) (Or.inl ⟨by rfl, ?_⟩) ?_ ?_
          rotate_left
          ·intro w'
           go_simp
           with_reducible rfl
          rotate_left
          ·simp only [Act.put, List.setIfInBounds_toArray, List.set_cons_zero, List.set_cons_succ, fb_, hb_]
           rfl
          refine tb_ (i := 19) (N := some 51) (v := ?_) (a' := ?_) #[true, true, false, true, true, false, false, true, true, false, false, false, true, true, false, false, true, true, false, true, false, false, false, false] rfl rfl (vb_ HT_.out (by kernel_rfl)) (fun _ _ _ h => h) (Or.inl ⟨by rfl, ?_⟩) ?_ ?_
          rotate_left
          ·intro w'
           go_simp
           with_reducible rfl
          rotate_left
          ·simp only [Act.put, List.setIfInBounds_toArray, List.set_cons_zero, List.set_cons_succ, fb_, hb_]
           rfl
          refine tb_ (i := 20) (N := some 52) (v := ?_) (a' := ?_) #[true, true, false, true, true, false, false, true, true, false, false, false, true, true, false, false, true, true, false, true, true, false, false, false] rfl rfl (vb_ HT_.out (by kernel_rfl)) (fun _ _ _ h => h) (Or.inl ⟨by rfl, ?_⟩) ?_ ?_
          rotate_left
          ·intro w'
           go_simp
           with_reducible rfl
          rotate_left
          ·simp only [Act.put, List.setIfInBounds_toArray, List.set_cons_zero, List.set_cons_succ, fb_, hb_]
           rfl
          refine ee_ (i := 2) (N := some 34) (v := ?_) (a' := ?_) #[true, true, true, true, true, false, false, true, true, false, false, false, true, true, false, false, true, true, false, true, true, false, false, false] rfl rfl (ld_ HT_.out HW_.out (by kernel_rfl)) (fun _ _ _ h => h) (Or.inl ⟨by rfl, ?_⟩) hHeld ?_ ?_
          rotate_left
          ·rintro w' ⟨s0, s1, s2, s3, s4, s5⟩
           go_simp
           with_reducible rfl
          rotate_left
          ·simp only [Act.put, List.setIfInBounds_toArray, List.set_cons_zero, List.set_cons_succ, fb_, hb_]
           rfl
          refine ee_ (i := 5) (N := some 37) (v := ?_) (a' := ?_) #[true, true, true, true, true, true, false, true, true, false, false, false, true, true, false, false, true, true, false, true, true, false, false, false] rfl rfl (ld_ HT_.out HW_.out (by kernel_rfl)) (fun _ _ _ h => h) (Or.inl ⟨by rfl, ?_⟩) hHeld ?_ ?_
          rotate_left
          ·rintro w' ⟨s0, s1, s2, s3, s4, s5⟩
           go_simp
           with_reducible rfl
          rotate_left
          ·simp only [Act.put, List.setIfInBounds_toArray, List.set_cons_zero, List.set_cons_succ, fb_, hb_]
           rfl
          refine tb_ (i := 6) (N := some 38) (v := ?_) (a' := ?_) #[true, true, true, true, true, true, true, true, true, false, false, false, true, true, false, false, true, true, false, true, true, false, false, false] rfl rfl (vb_ HT_.out (by kernel_rfl)) (fun _ _ _ h => h) (Or.inl ⟨by rfl, ?_⟩) ?_ ?_
          rotate_left
          ·intro w'
           go_simp
           with_reducible rfl
          rotate_left
          ·simp only [Act.put, List.setIfInBounds_toArray, List.set_cons_zero, List.set_cons_succ, fb_, hb_]
           rfl
          refine ee_ (i := 9) (N := some 41) (v := ?_) (a' := ?_) #[true, true, true, true, true, true, true, true, true, true, false, false, true, true, false, false, true, true, false, true, true, false, false, false] rfl rfl (ld_ HT_.out HW_.out (by kernel_rfl)) (fun _ _ _ h => h) (Or.inl ⟨by rfl, ?_⟩) hHeld ?_ ?_
          rotate_left
          ·rintro w' ⟨s0, s1, s2, s3, s4, s5⟩
           go_simp
           with_reducible rfl
          rotate_left
          ·simp only [Act.put, List.setIfInBounds_toArray, List.set_cons_zero, List.set_cons_succ, fb_, hb_]
           rfl
          refine tb_ (i := 10) (N := some 42) (v := ?_) (a' := ?_) #[true, true, true, true, true, true, true, true, true, true, true, false, true, true, false, false, true, true, false, true, true, false, false, false] rfl rfl (vb_ HT_.out (by kernel_rfl)) (fun _ _ _ h => h) (Or.inl ⟨by rfl, ?_⟩) ?_ ?_
          rotate_left
          ·intro w'
           go_simp
           with_reducible rfl
          rotate_left
          ·simp only [Act.put, List.setIfInBounds_toArray, List.set_cons_zero, List.set_cons_succ, fb_, hb_]
           rfl
          refine tb_ (i := 11) (N := some 43) (v := ?_) (a' := ?_) #[true, true, true, true, true, true, true, true, true, true, true, true, true, true, false, false, true, true, false, true, true, false, false, false] rfl rfl (vb_ HT_.out (by kernel_rfl)) (fun _ _ _ h => h) (Or.inl ⟨by rfl, ?_⟩) ?_ ?_
          rotate_left
          ·intro w'
           go_simp
           with_reducible rfl
          rotate_left
          ·simp only [Act.put, List.setIfInBounds_toArray, List.set_cons_zero, List.set_cons_succ, fb_, hb_]
           rfl
          refine ee_ (i := 14) (N := some 46) (v := ?_) (a' := ?_) #[true, true, true, true, true, true, true, true, true, true, true, true, true, true, true, false, true, true, false, true, true, false, false, false] rfl rfl (ld_ HT_.out HW_.out (by kernel_rfl)) (fun _ _ _ h => h) (Or.inl ⟨by rfl, ?_⟩) hHeld ?_ ?_
          rotate_left
          ·rintro w' ⟨s0, s1, s2, s3, s4, s5⟩
           go_simp
           with_reducible rfl
          rotate_left
          ·simp only [Act.put, List.setIfInBounds_toArray, List.set_cons_zero, List.set_cons_succ, fb_, hb_]
           rfl
          refine tb_ (i := 15) (N := some 47) (v := ?_) (a' := ?_) #[true, true, true, true, true, true, true, true, true, true, true, true, true, true, true, true, true, true, false, true, true, false, false, false] rfl rfl (vb_ HT_.out (by kernel_rfl)) (fun _ _ _ h => h) (Or.inl ⟨by rfl, ?_⟩) ?_ ?_
          rotate_left
          ·intro w'
           go_simp
           with_reducible rfl
          rotate_left
          ·simp only [Act.put, List.setIfInBounds_toArray, List.set_cons_zero, List.set_cons_succ, fb_, hb_]
           rfl
          refine ee_ (i := 18) (N := some 50) (v := ?_) (a' := ?_) #[true, true, true, true, true, true, true, true, true, true, true, true, true, true, true, true, true, true, true, true, true, false, false, false] rfl rfl (ld_ HT_.out HW_.out (by kernel_rfl)) (fun _ _ _ h => h) (Or.inl ⟨by rfl, ?_⟩) hHeld ?_ ?_
          rotate_left
          ·rintro w' ⟨s0, s1, s2, s3, s4, s5⟩
           go_simp
           with_reducible rfl
          rotate_left
          ·simp only [Act.put, List.setIfInBounds_toArray, List.set_cons_zero, List.set_cons_succ, fb_, hb_]
           rfl
          refine ee_ (i := 21) (N := some 53) (v := ?_) (a' := ?_) #[true, true, true, true, true, true, true, true, true, true, true, true, true, true, true, true, true, true, true, true, true, true, false, false] rfl rfl (ld_ HT_.out HW_.out (by kernel_rfl)) (fun _ _ _ h => h) (Or.inl ⟨by rfl, ?_⟩) hHeld ?_ ?_
          rotate_left
          ·rintro w' ⟨s0, s1, s2, s3, s4, s5⟩
           go_simp
           with_reducible rfl
          rotate_left
          ·simp only [Act.put, List.setIfInBounds_toArray, List.set_cons_zero, List.set_cons_succ, fb_, hb_]
           rfl
          refine tb_ (i := 22) (N := some 54) (v := ?_) (a' := ?_) #[true, true, true, true, true, true, true, true, true, true, true, true, true, true, true, true, true, true, true, true, true, true, true, false] rfl rfl (vb_ HT_.out (by kernel_rfl)) (fun _ _ _ h => h) (Or.inl ⟨by rfl, ?_⟩) ?_ ?_
          rotate_left
          ·intro w'
           go_simp
           with_reducible rfl
          rotate_left
          ·simp only [Act.put, List.setIfInBounds_toArray, List.set_cons_zero, List.set_cons_succ, fb_, hb_]
           rfl
          refine one_ (i := 23) (N := none) #[true, true, true, true, true, true, true, true, true, true, true, true, true, true, true, true, true, true, true, true, true, true, true, true] rfl rfl (ge_ HT_.out (by kernel_rfl)) (by decide) (fun K hK => ?_)
          have hs36 : w34.cell? ⟨gb160, 0, none⟩ = some (.int .i64 0) := (ga_ BK160.out 0).trans rfl
          have hfs36 := ha_ BK160.out 0
          have hs37 : w34.cell? ⟨gb160, 1, none⟩ = some (.int .i64 0) := (ga_ BK160.out 1).trans rfl
          have hfs37 := ha_ BK160.out 1
          have hs38 : w34.cell? ⟨gb160, 2, none⟩ = some (.int .i64 0) := (ga_ BK160.out 2).trans rfl
          have hfs38 := ha_ BK160.out 2
          have hs39 : w34.cell? ⟨gb160, 3, none⟩ = some (.int .i64 0) := (ga_ BK160.out 3).trans rfl
          have hfs39 := ha_ BK160.out 3
          refine zi_ (w1 := ?_) (by rfl) rfl ?_ ?_
          rotate_left
          ·go_simp
           rfl
          refine hK.out _ _ ⟨((cell_far (p := ⟨gb160, _, none⟩) (by first | exact Kd.oa_ (Kd.R_ne HO171.out BK160.out (by decide)) | (rw [cb_]; exact Kd.oa_ (Kd.R_ne HO171.out BK160.out (by decide))) | (show (Addr.add _ _).block ≠ _; rw [cb_]; exact Kd.oa_ (Kd.R_ne HO171.out BK160.out (by decide))) | (dsimp only; exact Kd.oa_ (Kd.R_ne HO171.out BK160.out (by decide)))) _).trans (((cell_far (p := ⟨gb160, _, none⟩) (by first | exact Kd.oa_ (Kd.R_ne HO171.out BK160.out (by decide)) | (rw [cb_]; exact Kd.oa_ (Kd.R_ne HO171.out BK160.out (by decide))) | (show (Addr.add _ _).block ≠ _; rw [cb_]; exact Kd.oa_ (Kd.R_ne HO171.out BK160.out (by decide))) | (dsimp only; exact Kd.oa_ (Kd.R_ne HO171.out BK160.out (by decide)))) _).trans (((cell_far (p := ⟨gb160, _, none⟩) (by first | exact Kd.oa_ (Kd.R_ne HO171.out BK160.out (by decide)) | (rw [cb_]; exact Kd.oa_ (Kd.R_ne HO171.out BK160.out (by decide))) | (show (Addr.add _ _).block ≠ _; rw [cb_]; exact Kd.oa_ (Kd.R_ne HO171.out BK160.out (by decide))) | (dsimp only; exact Kd.oa_ (Kd.R_ne HO171.out BK160.out (by decide)))) _).trans (((cell_far (p := ⟨gb160, _, none⟩) (by first | exact Kd.oa_ (Kd.R_ne HO171.out BK160.out (by decide)) | (rw [cb_]; exact Kd.oa_ (Kd.R_ne HO171.out BK160.out (by decide))) | (show (Addr.add _ _).block ≠ _; rw [cb_]; exact Kd.oa_ (Kd.R_ne HO171.out BK160.out (by decide))) | (dsimp only; exact Kd.oa_ (Kd.R_ne HO171.out BK160.out (by decide)))) _).trans (hHeld.1)))))))), ((cell_far (p := ⟨gb160, _, none⟩) (by first | exact Kd.oa_ (Kd.R_ne HO171.out BK160.out (by decide)) | (rw [cb_]; exact Kd.oa_ (Kd.R_ne HO171.out BK160.out (by decide))) | (show (Addr.add _ _).block ≠ _; rw [cb_]; exact Kd.oa_ (Kd.R_ne HO171.out BK160.out (by decide))) | (dsimp only; exact Kd.oa_ (Kd.R_ne HO171.out BK160.out (by decide)))) _).trans (((cell_far (p := ⟨gb160, _, none⟩) (by first | exact Kd.oa_ (Kd.R_ne HO171.out BK160.out (by decide)) | (rw [cb_]; exact Kd.oa_ (Kd.R_ne HO171.out BK160.out (by decide))) | (show (Addr.add _ _).block ≠ _; rw [cb_]; exact Kd.oa_ (Kd.R_ne HO171.out BK160.out (by decide))) | (dsimp only; exact Kd.oa_ (Kd.R_ne HO171.out BK160.out (by decide)))) _).trans (((cell_far (p := ⟨gb160, _, none⟩) (by first | exact Kd.oa_ (Kd.R_ne HO171.out BK160.out (by decide)) | (rw [cb_]; exact Kd.oa_ (Kd.R_ne HO171.out BK160.out (by decide))) | (show (Addr.add _ _).block ≠ _; rw [cb_]; exact Kd.oa_ (Kd.R_ne HO171.out BK160.out (by decide))) | (dsimp only; exact Kd.oa_ (Kd.R_ne HO171.out BK160.out (by decide)))) _).trans (((cell_far (p := ⟨gb160, _, none⟩) (by first | exact Kd.oa_ (Kd.R_ne HO171.out BK160.out (by decide)) | (rw [cb_]; exact Kd.oa_ (Kd.R_ne HO171.out BK160.out (by decide))) | (show (Addr.add _ _).block ≠ _; rw [cb_]; exact Kd.oa_ (Kd.R_ne HO171.out BK160.out (by decide))) | (dsimp only; exact Kd.oa_ (Kd.R_ne HO171.out BK160.out (by decide)))) _).trans (hHeld.2.1)))))))), ((cell_far (p := ⟨gb160, _, none⟩) (by first | exact Kd.oa_ (Kd.R_ne HO171.out BK160.out (by decide)) | (rw [cb_]; exact Kd.oa_ (Kd.R_ne HO171.out BK160.out (by decide))) | (show (Addr.add _ _).block ≠ _; rw [cb_]; exact Kd.oa_ (Kd.R_ne HO171.out BK160.out (by decide))) | (dsimp only; exact Kd.oa_ (Kd.R_ne HO171.out BK160.out (by decide)))) _).trans (((cell_far (p := ⟨gb160, _, none⟩) (by first | exact Kd.oa_ (Kd.R_ne HO171.out BK160.out (by decide)) | (rw [cb_]; exact Kd.oa_ (Kd.R_ne HO171.out BK160.out (by decide))) | (show (Addr.add _ _).block ≠ _; rw [cb_]; exact Kd.oa_ (Kd.R_ne HO171.out BK160.out (by decide))) | (dsimp only; exact Kd.oa_ (Kd.R_ne HO171.out BK160.out (by decide)))) _).trans (((cell_far (p := ⟨gb160, _, none⟩) (by first | exact Kd.oa_ (Kd.R_ne HO171.out BK160.out (by decide)) | (rw [cb_]; exact Kd.oa_ (Kd.R_ne HO171.out BK160.out (by decide))) | (show (Addr.add _ _).block ≠ _; rw [cb_]; exact Kd.oa_ (Kd.R_ne HO171.out BK160.out (by decide))) | (dsimp only; exact Kd.oa_ (Kd.R_ne HO171.out BK160.out (by decide)))) _).trans (((cell_far (p := ⟨gb160, _, none⟩) (by first | exact Kd.oa_ (Kd.R_ne HO171.out BK160.out (by decide)) | (rw [cb_]; exact Kd.oa_ (Kd.R_ne HO171.out BK160.out (by decide))) | (show (Addr.add _ _).block ≠ _; rw [cb_]; exact Kd.oa_ (Kd.R_ne HO171.out BK160.out (by decide))) | (dsimp only; exact Kd.oa_ (Kd.R_ne HO171.out BK160.out (by decide)))) _).trans (hHeld.2.2.1)))))))), ((cell_far (p := ⟨gb160, _, none⟩) (by first | exact Kd.oa_ (Kd.R_ne HO171.out BK160.out (by decide)) | (rw [cb_]; exact Kd.oa_ (Kd.R_ne HO171.out BK160.out (by decide))) | (show (Addr.add _ _).block ≠ _; rw [cb_]; exact Kd.oa_ (Kd.R_ne HO171.out BK160.out (by decide))) | (dsimp only; exact Kd.oa_ (Kd.R_ne HO171.out BK160.out (by decide)))) _).trans (((cell_far (p := ⟨gb160, _, none⟩) (by first | exact Kd.oa_ (Kd.R_ne HO171.out BK160.out (by decide)) | (rw [cb_]; exact Kd.oa_ (Kd.R_ne HO171.out BK160.out (by decide))) | (show (Addr.add _ _).block ≠ _; rw [cb_]; exact Kd.oa_ (Kd.R_ne HO171.out BK160.out (by decide))) | (dsimp only; exact Kd.oa_ (Kd.R_ne HO171.out BK160.out (by decide)))) _).trans (((cell_far (p := ⟨gb160, _, none⟩) (by first | exact Kd.oa_ (Kd.R_ne HO171.out BK160.out (by decide)) | (rw [cb_]; exact Kd.oa_ (Kd.R_ne HO171.out BK160.out (by decide))) | (show (Addr.add _ _).block ≠ _; rw [cb_]; exact Kd.oa_ (Kd.R_ne HO171.out BK160.out (by decide))) | (dsimp only; exact Kd.oa_ (Kd.R_ne HO171.out BK160.out (by decide)))) _).trans (((cell_far (p := ⟨gb160, _, none⟩) (by first | exact Kd.oa_ (Kd.R_ne HO171.out BK160.out (by decide)) | (rw [cb_]; exact Kd.oa_ (Kd.R_ne HO171.out BK160.out (by decide))) | (show (Addr.add _ _).block ≠ _; rw [cb_]; exact Kd.oa_ (Kd.R_ne HO171.out BK160.out (by decide))) | (dsimp only; exact Kd.oa_ (Kd.R_ne HO171.out BK160.out (by decide)))) _).trans (hHeld.2.2.2.1)))))))), ((cell_far (p := ⟨gb160, _, none⟩) (by first | exact Kd.oa_ (Kd.R_ne HO171.out BK160.out (by decide)) | (rw [cb_]; exact Kd.oa_ (Kd.R_ne HO171.out BK160.out (by decide))) | (show (Addr.add _ _).block ≠ _; rw [cb_]; exact Kd.oa_ (Kd.R_ne HO171.out BK160.out (by decide))) | (dsimp only; exact Kd.oa_ (Kd.R_ne HO171.out BK160.out (by decide)))) _).trans (((cell_far (p := ⟨gb160, _, none⟩) (by first | exact Kd.oa_ (Kd.R_ne HO171.out BK160.out (by decide)) | (rw [cb_]; exact Kd.oa_ (Kd.R_ne HO171.out BK160.out (by decide))) | (show (Addr.add _ _).block ≠ _; rw [cb_]; exact Kd.oa_ (Kd.R_ne HO171.out BK160.out (by decide))) | (dsimp only; exact Kd.oa_ (Kd.R_ne HO171.out BK160.out (by decide)))) _).trans (((cell_far (p := ⟨gb160, _, none⟩) (by first | exact Kd.oa_ (Kd.R_ne HO171.out BK160.out (by decide)) | (rw [cb_]; exact Kd.oa_ (Kd.R_ne HO171.out BK160.out (by decide))) | (show (Addr.add _ _).block ≠ _; rw [cb_]; exact Kd.oa_ (Kd.R_ne HO171.out BK160.out (by decide))) | (dsimp only; exact Kd.oa_ (Kd.R_ne HO171.out BK160.out (by decide)))) _).trans (((cell_far (p := ⟨gb160, _, none⟩) (by first | exact Kd.oa_ (Kd.R_ne HO171.out BK160.out (by decide)) | (rw [cb_]; exact Kd.oa_ (Kd.R_ne HO171.out BK160.out (by decide))) | (show (Addr.add _ _).block ≠ _; rw [cb_]; exact Kd.oa_ (Kd.R_ne HO171.out BK160.out (by decide))) | (dsimp only; exact Kd.oa_ (Kd.R_ne HO171.out BK160.out (by decide)))) _).trans (hHeld.2.2.2.2.1)))))))), ((cell_far (p := ⟨gb160, _, none⟩) (by first | exact Kd.oa_ (Kd.R_ne HO171.out BK160.out (by decide)) | (rw [cb_]; exact Kd.oa_ (Kd.R_ne HO171.out BK160.out (by decide))) | (show (Addr.add _ _).block ≠ _; rw [cb_]; exact Kd.oa_ (Kd.R_ne HO171.out BK160.out (by decide))) | (dsimp only; exact Kd.oa_ (Kd.R_ne HO171.out BK160.out (by decide)))) _).trans (((cell_far (p := ⟨gb160, _, none⟩) (by first | exact Kd.oa_ (Kd.R_ne HO171.out BK160.out (by decide)) | (rw [cb_]; exact Kd.oa_ (Kd.R_ne HO171.out BK160.out (by decide))) | (show (Addr.add _ _).block ≠ _; rw [cb_]; exact Kd.oa_ (Kd.R_ne HO171.out BK160.out (by decide))) | (dsimp only; exact Kd.oa_ (Kd.R_ne HO171.out BK160.out (by decide)))) _).trans (((cell_far (p := ⟨gb160, _, none⟩) (by first | exact Kd.oa_ (Kd.R_ne HO171.out BK160.out (by decide)) | (rw [cb_]; exact Kd.oa_ (Kd.R_ne HO171.out BK160.out (by decide))) | (show (Addr.add _ _).block ≠ _; rw [cb_]; exact Kd.oa_ (Kd.R_ne HO171.out BK160.out (by decide))) | (dsimp only; exact Kd.oa_ (Kd.R_ne HO171.out BK160.out (by decide)))) _).trans (((cell_far (p := ⟨gb160, _, none⟩) (by first | exact Kd.oa_ (Kd.R_ne HO171.out BK160.out (by decide)) | (rw [cb_]; exact Kd.oa_ (Kd.R_ne HO171.out BK160.out (by decide))) | (show (Addr.add _ _).block ≠ _; rw [cb_]; exact Kd.oa_ (Kd.R_ne HO171.out BK160.out (by decide))) | (dsimp only; exact Kd.oa_ (Kd.R_ne HO171.out BK160.out (by decide)))) _).trans (hHeld.2.2.2.2.2))))))))⟩ (fun hHeld => ?_)
          clear hK K
          refine hh_ (og_ HT_.out (by kernel_rfl)) ?_
          have hcz40_0 : w34.cell? ⟨gb160, 0, none⟩ = some (.int .i64 0) := (ga_ BK160.out 0).trans rfl
          have hcz40_1 : w34.cell? ⟨gb160, 1, none⟩ = some (.int .i64 0) := (ga_ BK160.out 1).trans rfl
          have hcz40_2 : w34.cell? ⟨gb160, 2, none⟩ = some (.int .i64 0) := (ga_ BK160.out 2).trans rfl
          have hcz40_3 : w34.cell? ⟨gb160, 3, none⟩ = some (.int .i64 0) := (ga_ BK160.out 3).trans rfl
          have hfz40_0 := ha_ BK160.out 0
          have hfz40_1 := ha_ BK160.out 1
          have hfz40_2 := ha_ BK160.out 2
          have hfz40_3 := ha_ BK160.out 3
          try go_wp2_with (first | ((with_reducible refine la_ (f := 9) rfl ?_); refine wb_ (some 56) rfl rfl Tryd.func9 (by kernel_rfl) rfl #[.agg #[.int .i64 (rd t167 0), .int .i64 (wrap64 ((wrap64 ((wrap64 ((rd t167 1) * 1024)) + (wrap64 ((rd t167 2) * 32)))) + (rd t167 3))), .int .i64 (rd t167 4), .int .i64 (rd t167 5)]] rfl (by (try simp only [List.map_toArray, List.map_cons, List.map_nil]); first | done | rfl | (simp only [List.length_drop, List.length_take]; rfl)) ?_; (with_reducible refine (xc_.calls (rd t167 0) (wrap64 ((wrap64 ((wrap64 ((rd t167 1) * 1024)) + (wrap64 ((rd t167 2) * 32)))) + (rd t167 3))) (rd t167 4) (rd t167 5) false _ A13.out).mono ?_); rintro e w41 ⟨rfl, hb⟩; refine ⟨_, rfl, ?_⟩; have n0_ := ba_.mk (Kd.vc_ (by (with_reducible repeat (first | apply Kd.ta_ | apply Kd.ua_ | apply Kd.db_)); exact (Kd.uc_ (Kd.te_ (p := ⟨gb160, 3, none⟩) (Kd.te_ (p := ⟨gb160, 2, none⟩) (Kd.te_ (p := ⟨gb160, 1, none⟩) (Kd.te_ (p := ⟨gb160, 0, none⟩) (Kd.mg_ HO166.out BK160.out (by decide)) (fun _ hk => hk.2) (.int .i64 (rd t167 0))) (fun _ hk => hk.2) (.int .i64 (wrap64 ((wrap64 ((wrap64 ((rd t167 1) * 1024)) + (wrap64 ((rd t167 2) * 32)))) + (rd t167 3))))) (fun _ hk => hk.2) (.int .i64 (rd t167 4))) (fun _ hk => hk.2) (.int .i64 (rd t167 5))) (fun _ h_ => h_.1))) hb); have n1_ := ba_.mk (Kd.vc_ (by (with_reducible repeat (first | apply Kd.ta_ | apply Kd.ua_ | apply Kd.db_)); exact (Kd.uc_ (Kd.te_ (p := ⟨gb160, 3, none⟩) (Kd.te_ (p := ⟨gb160, 2, none⟩) (Kd.te_ (p := ⟨gb160, 1, none⟩) (Kd.te_ (p := ⟨gb160, 0, none⟩) (Kd.mg_ HO171.out BK160.out (by decide)) (fun _ hk => hk.2) (.int .i64 (rd t167 0))) (fun _ hk => hk.2) (.int .i64 (wrap64 ((wrap64 ((wrap64 ((rd t167 1) * 1024)) + (wrap64 ((rd t167 2) * 32)))) + (rd t167 3))))) (fun _ hk => hk.2) (.int .i64 (rd t167 4))) (fun _ hk => hk.2) (.int .i64 (rd t167 5))) (fun _ h_ => h_.1))) hb); have n2_ := ba_.mk (zb_ (g := gb160) (o := .cells #[.int .i64 (rd t167 0), .int .i64 (wrap64 ((wrap64 ((wrap64 ((rd t167 1) * 1024)) + (wrap64 ((rd t167 2) * 32)))) + (rd t167 3))), .int .i64 (rd t167 4), .int .i64 (rd t167 5)] 26 (0, 0)) (by (with_reducible repeat (first | refine ra_ ?_ _ | refine ab_ ?_ | refine qa_ ?_ _)); refine oc_ (cs := #[.int .i64 (rd t167 0), .int .i64 (wrap64 ((wrap64 ((wrap64 ((rd t167 1) * 1024)) + (wrap64 ((rd t167 2) * 32)))) + (rd t167 3))), .int .i64 (rd t167 4), .int .i64 0]) ?_ 3 _ rfl; (with_reducible repeat (first | refine ra_ ?_ _ | refine ab_ ?_ | refine qa_ ?_ _)); refine oc_ (cs := #[.int .i64 (rd t167 0), .int .i64 (wrap64 ((wrap64 ((wrap64 ((rd t167 1) * 1024)) + (wrap64 ((rd t167 2) * 32)))) + (rd t167 3))), .int .i64 0, .int .i64 0]) ?_ 2 _ rfl; (with_reducible repeat (first | refine ra_ ?_ _ | refine ab_ ?_ | refine qa_ ?_ _)); refine oc_ (cs := #[.int .i64 (rd t167 0), .int .i64 0, .int .i64 0, .int .i64 0]) ?_ 1 _ rfl; (with_reducible repeat (first | refine ra_ ?_ _ | refine ab_ ?_ | refine qa_ ?_ _)); refine oc_ (cs := #[.int .i64 0, .int .i64 0, .int .i64 0, .int .i64 0]) ?_ 0 _ rfl; (with_reducible repeat (first | refine ra_ ?_ _ | refine ab_ ?_ | refine qa_ ?_ _)); exact BK160.out) hb); have n3_ := ba_.mk (pa_ (by repeat (first | (with_reducible first | exact HB.out | apply da_ | apply aa_ | apply ca_ | refine ia_ ?_ GE160.out) | exact HB.out)) hb); clear HO166; clear HO171; clear BK160; clear HB; have HO166 := n0_; have HO171 := n1_; have BK160 := n2_; have HB := n3_; clear n0_ n1_ n2_ n3_; (try clear hb); (try clear hb2); (try clear hk); (try clear hi); have hcz42_0 : w41.cell? ⟨gb160, 0, none⟩ = some (.int .i64 (rd t167 0)) := (ga_ BK160.out 0).trans rfl; have hcz42_1 : w41.cell? ⟨gb160, 1, none⟩ = some (.int .i64 (wrap64 ((wrap64 ((wrap64 ((rd t167 1) * 1024)) + (wrap64 ((rd t167 2) * 32)))) + (rd t167 3)))) := (ga_ BK160.out 1).trans rfl; have hcz42_2 : w41.cell? ⟨gb160, 2, none⟩ = some (.int .i64 (rd t167 4)) := (ga_ BK160.out 2).trans rfl; have hcz42_3 : w41.cell? ⟨gb160, 3, none⟩ = some (.int .i64 (rd t167 5)) := (ga_ BK160.out 3).trans rfl; have hfz42_0 := ha_ BK160.out 0; have hfz42_1 := ha_ BK160.out 1; have hfz42_2 := ha_ BK160.out 2; have hfz42_3 := ha_ BK160.out 3))
          refine bodyPost_ret (vf_ rfl _ _ gb160 26 #[.int .i64 0, .int .i64 0, .int .i64 0, .int .i64 0] (0, 0) _ rfl (by (with_reducible repeat (first | refine ra_ ?_ _ | refine ab_ ?_ | refine qa_ ?_ _)); refine oc_ (cs := #[.int .i64 0, .int .i64 0, .int .i64 0, .int .i64 (rd t167 5)]) ?_ 3 _ rfl; (with_reducible repeat (first | refine ra_ ?_ _ | refine ab_ ?_ | refine qa_ ?_ _)); refine oc_ (cs := #[.int .i64 0, .int .i64 0, .int .i64 (rd t167 4), .int .i64 (rd t167 5)]) ?_ 2 _ rfl; (with_reducible repeat (first | refine ra_ ?_ _ | refine ab_ ?_ | refine qa_ ?_ _)); refine oc_ (cs := #[.int .i64 0, .int .i64 (wrap64 ((wrap64 ((wrap64 ((rd t167 1) * 1024)) + (wrap64 ((rd t167 2) * 32)))) + (rd t167 3))), .int .i64 (rd t167 4), .int .i64 (rd t167 5)]) ?_ 1 _ rfl; (with_reducible repeat (first | refine ra_ ?_ _ | refine ab_ ?_ | refine qa_ ?_ _)); refine oc_ (cs := #[.int .i64 (rd t167 0), .int .i64 (wrap64 ((wrap64 ((wrap64 ((rd t167 1) * 1024)) + (wrap64 ((rd t167 2) * 32)))) + (rd t167 3))), .int .i64 (rd t167 4), .int .i64 (rd t167 5)]) ?_ 0 _ rfl; (with_reducible repeat (first | refine ra_ ?_ _ | refine ab_ ?_ | refine qa_ ?_ _)); exact BK160.out) Tryd.underlying26 rfl (by kernel_rfl)) rfl ?_
          exact ⟨by first | rfl | (simp [xa_, ya_] <;> rfl) | (simp [*, xa_, ya_] <;> rfl), by repeat (first | (with_reducible first | exact HB.out | apply da_ | apply aa_ | apply ca_ | refine ia_ ?_ GE160.out) | exact HB.out)⟩
        ·rw [if_neg c12] at H
         exact absurd H (by simp)
       ·rw [if_neg c11] at H
        exact absurd H (by simp)
      ·rw [if_neg c10] at H
       exact absurd H (by simp)
     ·rw [if_neg c9] at H
      exact absurd H (by simp)
    ·rw [if_neg c8] at H
     exact absurd H (by simp)
   ·rw [if_neg c7] at H
    exact absurd H (by simp)
  ·rw [if_neg c6] at H
   have c6b0 : (t169 == 0) = false := beq_eq_false_iff_ne.mpr c6
   have c6b1 : (t169 != 0) = true := bne_iff_ne.mpr c6
   simp only [Option.some.injEq, Prod.mk.injEq] at H
   obtain ⟨rfl, rfl, rfl, rfl, rfl, rfl⟩ := H
   go_enter Tryd.func19, Tryd.ntmps19
   go_wp2_with (first | ((with_reducible refine hc_ (N := 2) rfl ?_); refine ed_ ?hg (N := 2) ?hd (cs := #[.int .i64 0, .int .i64 0, .int .i64 0, .int .i64 0]) (t := 26) ?hr ?_; (case hd => rfl); (case hg => rfl); (case hr => first | (go_simp; done) | (go_simp; rfl)); intro gb160 hg w43 hbox hb; have n0_ := ba_.mk (pa_ (by repeat (first | (with_reducible first | exact HB.out | apply da_ | apply aa_ | apply ca_) | exact HB.out)) hb); have n1_ := ba_.mk (hbox); have n2_ := ba_.mk ((by rw [hg]; exact (wa_ (by repeat (first | (with_reducible first | exact HB.out | apply da_ | apply aa_ | apply ca_) | exact HB.out))) : w.heap.size ≤ gb160)); have n3_ := ba_.mk ((by rw [hg]; exact (wa_ (by repeat (first | (with_reducible first | exact HB.out | apply da_ | apply aa_ | apply ca_) | exact HB.out))) : w.heap.size ≤ gb160)); clear HB; have HB := n0_; have BK160 := n1_; have GW160 := n2_; have GE160 := n3_; clear n0_ n1_ n2_ n3_; clear hb hbox hg) | ((with_reducible refine la_ (f := 30) rfl ?_); refine wb_ (some 10) rfl rfl Tryd.func30 (by kernel_rfl) rfl #[.string a0] rfl (by (try simp only [List.map_toArray, List.map_cons, List.map_nil]); first | done | rfl | (simp only [List.length_drop, List.length_take]; rfl)) ?_; (with_reducible refine (vd_.calls a0 t161 t162 _ A2.out).mono ?_); rintro e w44 ⟨rfl, hb⟩; refine ⟨_, rfl, ?_⟩; have n0_ := ba_.mk (zb_ (g := gb160) (o := .cells #[.int .i64 0, .int .i64 0, .int .i64 0, .int .i64 0] 26 (0, 0)) (by (with_reducible repeat (first | refine ra_ ?_ _ | refine ab_ ?_ | refine qa_ ?_ _)); exact BK160.out) hb); have n1_ := ba_.mk (pa_ (by repeat (first | (with_reducible first | exact HB.out | apply da_ | apply aa_ | apply ca_ | refine ia_ ?_ GE160.out) | exact HB.out)) hb); clear BK160; clear HB; have BK160 := n0_; have HB := n1_; clear n0_ n1_; (try clear hb); (try clear hb2); (try clear hk); (try clear hi)) | ((with_reducible refine la_ (f := 31) rfl ?_); refine wb_ (some 19) rfl rfl Tryd.func31 (by kernel_rfl) rfl #[.string t161] rfl (by (try simp only [List.map_toArray, List.map_cons, List.map_nil]); first | done | rfl | (simp only [List.length_drop, List.length_take]; rfl)) ?_; (with_reducible refine (cg_.calls t161 t163 t164 _ A4.out).mono ?_); rintro e w45 ⟨v165, rfl, ho0, hb⟩; refine ⟨_, rfl, ?_⟩; have n0_ := ba_.mk (Kd.wc_ ho0 (wa_ (by repeat (first | (with_reducible first | exact HB.out | apply da_ | apply aa_ | apply ca_ | refine ia_ ?_ GE160.out) | exact HB.out)))); have n1_ := ba_.mk (zb_ (g := gb160) (o := .cells #[.int .i64 0, .int .i64 0, .int .i64 0, .int .i64 0] 26 (0, 0)) (by (with_reducible repeat (first | refine ra_ ?_ _ | refine ab_ ?_ | refine qa_ ?_ _)); exact BK160.out) hb); have n2_ := ba_.mk (pa_ (by repeat (first | (with_reducible first | exact HB.out | apply da_ | apply aa_ | apply ca_ | refine ia_ ?_ GE160.out) | exact HB.out)) hb); clear BK160; clear HB; have HO166 := n0_; have BK160 := n1_; have HB := n2_; clear n0_ n1_ n2_; (try clear hb); (try clear hb2); (try clear hk); (try clear hi); (try clear ho0); obtain ⟨Ao46, co46, eo46⟩ := Kd.nc_ HO166.out; subst eo46) | ((with_reducible refine la_ (f := 32) rfl ?_); refine wb_ (some 24) rfl rfl Tryd.func32 (by kernel_rfl) rfl #[.slice Ao46 t163.length co46] rfl (by (try simp only [List.map_toArray, List.map_cons, List.map_nil]); first | done | rfl | (simp only [List.length_drop, List.length_take]; rfl)) ?_; (with_reducible refine (xj_.calls _ _ t163 t167 t168 t169 _ ?side1 ?side2 A5.out).mono ?_); (case side1 => repeat (first | exact (Kd.lb_ HO166.out).2.2 | (with_reducible refine Kd.zc_ ?_ _) | (with_reducible refine Kd.ad_ ?_ _) | (with_reducible refine Kd.md_ ?_))); (case side2 => exact (Kd.lb_ HO166.out).2.1); rintro e w47 ⟨v170, rfl, ho0, hb⟩; refine ⟨_, rfl, ?_⟩; have n0_ := ba_.mk (Kd.gd_ (by (with_reducible repeat (first | apply Kd.ta_ | apply Kd.ua_ | apply Kd.db_)); exact HO166.out) (Kd.be_ ho0) hb); have n1_ := ba_.mk (Kd.wc_ (Kd.yd_ ho0 (Kd.R_lt (by (with_reducible repeat (first | apply Kd.ta_ | apply Kd.ua_ | apply Kd.db_)); exact HO166.out))) (wa_ (by repeat (first | (with_reducible first | exact HB.out | apply da_ | apply aa_ | apply ca_ | refine ia_ ?_ GE160.out) | exact HB.out)))); have n2_ := ba_.mk (zb_ (g := gb160) (o := .cells #[.int .i64 0, .int .i64 0, .int .i64 0, .int .i64 0] 26 (0, 0)) (by (with_reducible repeat (first | refine ra_ ?_ _ | refine ab_ ?_ | refine qa_ ?_ _)); exact BK160.out) hb); have n3_ := ba_.mk (pa_ (by repeat (first | (with_reducible first | exact HB.out | apply da_ | apply aa_ | apply ca_ | refine ia_ ?_ GE160.out) | exact HB.out)) hb); clear HO166; clear BK160; clear HB; have HO166 := n0_; have HO171 := n1_; have BK160 := n2_; have HB := n3_; clear n0_ n1_ n2_ n3_; (try clear hb); (try clear hb2); (try clear hk); (try clear hi); (try clear ho0); have hcz48_0 : w47.cell? ⟨gb160, 0, none⟩ = some (.int .i64 0) := (ga_ BK160.out 0).trans rfl; have hcz48_1 : w47.cell? ⟨gb160, 1, none⟩ = some (.int .i64 0) := (ga_ BK160.out 1).trans rfl; have hcz48_2 : w47.cell? ⟨gb160, 2, none⟩ = some (.int .i64 0) := (ga_ BK160.out 2).trans rfl; have hcz48_3 : w47.cell? ⟨gb160, 3, none⟩ = some (.int .i64 0) := (ga_ BK160.out 3).trans rfl; have hfz48_0 := ha_ BK160.out 0; have hfz48_1 := ha_ BK160.out 1; have hfz48_2 := ha_ BK160.out 2; have hfz48_3 := ha_ BK160.out 3))
   refine bodyPost_ret (vf_ rfl _ _ gb160 26 #[.int .i64 0, .int .i64 0, .int .i64 0, .int .i64 0] (0, 0) _ rfl (by (with_reducible repeat (first | refine ra_ ?_ _ | refine ab_ ?_ | refine qa_ ?_ _)); refine oc_ (cs := #[.int .i64 0, .int .i64 0, .int .i64 0, .int .i64 0]) ?_ 3 _ rfl; (with_reducible repeat (first | refine ra_ ?_ _ | refine ab_ ?_ | refine qa_ ?_ _)); refine oc_ (cs := #[.int .i64 0, .int .i64 0, .int .i64 0, .int .i64 0]) ?_ 2 _ rfl; (with_reducible repeat (first | refine ra_ ?_ _ | refine ab_ ?_ | refine qa_ ?_ _)); refine oc_ (cs := #[.int .i64 0, .int .i64 0, .int .i64 0, .int .i64 0]) ?_ 1 _ rfl; (with_reducible repeat (first | refine ra_ ?_ _ | refine ab_ ?_ | refine qa_ ?_ _)); refine oc_ (cs := #[.int .i64 0, .int .i64 0, .int .i64 0, .int .i64 0]) ?_ 0 _ rfl; (with_reducible repeat (first | refine ra_ ?_ _ | refine ab_ ?_ | refine qa_ ?_ _)); exact BK160.out) Tryd.underlying26 rfl (by kernel_rfl)) rfl ?_
   exact ⟨by first | rfl | (simp [xa_, ya_] <;> rfl) | (simp [*, xa_, ya_] <;> rfl), by repeat (first | (with_reducible first | exact HB.out | apply da_ | apply aa_ | apply ca_ | refine ia_ ?_ GE160.out) | exact HB.out)⟩
 ·rw [if_neg c3] at H
  have c3b0 : (t162 == 0) = false := beq_eq_false_iff_ne.mpr c3
  have c3b1 : (t162 != 0) = true := bne_iff_ne.mpr c3
  simp only [Option.some.injEq, Prod.mk.injEq] at H
  obtain ⟨rfl, rfl, rfl, rfl, rfl, rfl⟩ := H
  go_enter Tryd.func19, Tryd.ntmps19
  go_wp2_with (first | ((with_reducible refine hc_ (N := 2) rfl ?_); refine ed_ ?hg (N := 2) ?hd (cs := #[.int .i64 0, .int .i64 0, .int .i64 0, .int .i64 0]) (t := 26) ?hr ?_; (case hd => rfl); (case hg => rfl); (case hr => first | (go_simp; done) | (go_simp; rfl)); intro gb160 hg w49 hbox hb; have n0_ := ba_.mk (pa_ (by repeat (first | (with_reducible first | exact HB.out | apply da_ | apply aa_ | apply ca_) | exact HB.out)) hb); have n1_ := ba_.mk (hbox); have n2_ := ba_.mk ((by rw [hg]; exact (wa_ (by repeat (first | (with_reducible first | exact HB.out | apply da_ | apply aa_ | apply ca_) | exact HB.out))) : w.heap.size ≤ gb160)); have n3_ := ba_.mk ((by rw [hg]; exact (wa_ (by repeat (first | (with_reducible first | exact HB.out | apply da_ | apply aa_ | apply ca_) | exact HB.out))) : w.heap.size ≤ gb160)); clear HB; have HB := n0_; have BK160 := n1_; have GW160 := n2_; have GE160 := n3_; clear n0_ n1_ n2_ n3_; clear hb hbox hg) | ((with_reducible refine la_ (f := 30) rfl ?_); refine wb_ (some 10) rfl rfl Tryd.func30 (by kernel_rfl) rfl #[.string a0] rfl (by (try simp only [List.map_toArray, List.map_cons, List.map_nil]); first | done | rfl | (simp only [List.length_drop, List.length_take]; rfl)) ?_; (with_reducible refine (vd_.calls a0 t161 t162 _ A2.out).mono ?_); rintro e w50 ⟨rfl, hb⟩; refine ⟨_, rfl, ?_⟩; have n0_ := ba_.mk (zb_ (g := gb160) (o := .cells #[.int .i64 0, .int .i64 0, .int .i64 0, .int .i64 0] 26 (0, 0)) (by (with_reducible repeat (first | refine ra_ ?_ _ | refine ab_ ?_ | refine qa_ ?_ _)); exact BK160.out) hb); have n1_ := ba_.mk (pa_ (by repeat (first | (with_reducible first | exact HB.out | apply da_ | apply aa_ | apply ca_ | refine ia_ ?_ GE160.out) | exact HB.out)) hb); clear BK160; clear HB; have BK160 := n0_; have HB := n1_; clear n0_ n1_; (try clear hb); (try clear hb2); (try clear hk); (try clear hi); have hcz51_0 : w50.cell? ⟨gb160, 0, none⟩ = some (.int .i64 0) := (ga_ BK160.out 0).trans rfl; have hcz51_1 : w50.cell? ⟨gb160, 1, none⟩ = some (.int .i64 0) := (ga_ BK160.out 1).trans rfl; have hcz51_2 : w50.cell? ⟨gb160, 2, none⟩ = some (.int .i64 0) := (ga_ BK160.out 2).trans rfl; have hcz51_3 : w50.cell? ⟨gb160, 3, none⟩ = some (.int .i64 0) := (ga_ BK160.out 3).trans rfl; have hfz51_0 := ha_ BK160.out 0; have hfz51_1 := ha_ BK160.out 1; have hfz51_2 := ha_ BK160.out 2; have hfz51_3 := ha_ BK160.out 3))
  refine bodyPost_ret (vf_ rfl _ _ gb160 26 #[.int .i64 0, .int .i64 0, .int .i64 0, .int .i64 0] (0, 0) _ rfl (by (with_reducible repeat (first | refine ra_ ?_ _ | refine ab_ ?_ | refine qa_ ?_ _)); refine oc_ (cs := #[.int .i64 0, .int .i64 0, .int .i64 0, .int .i64 0]) ?_ 3 _ rfl; (with_reducible repeat (first | refine ra_ ?_ _ | refine ab_ ?_ | refine qa_ ?_ _)); refine oc_ (cs := #[.int .i64 0, .int .i64 0, .int .i64 0, .int .i64 0]) ?_ 2 _ rfl; (with_reducible repeat (first | refine ra_ ?_ _ | refine ab_ ?_ | refine qa_ ?_ _)); refine oc_ (cs := #[.int .i64 0, .int .i64 0, .int .i64 0, .int .i64 0]) ?_ 1 _ rfl; (with_reducible repeat (first | refine ra_ ?_ _ | refine ab_ ?_ | refine qa_ ?_ _)); refine oc_ (cs := #[.int .i64 0, .int .i64 0, .int .i64 0, .int .i64 0]) ?_ 0 _ rfl; (with_reducible repeat (first | refine ra_ ?_ _ | refine ab_ ?_ | refine qa_ ?_ _)); exact BK160.out) Tryd.underlying26 rfl (by kernel_rfl)) rfl ?_
  exact ⟨by first | rfl | (simp [xa_, ya_] <;> rfl) | (simp [*, xa_, ya_] <;> rfl), by repeat (first | (with_reducible first | exact HB.out | apply da_ | apply aa_ | apply ca_ | refine ia_ ?_ GE160.out) | exact HB.out)⟩
end Go.Proofs.YtpkhgapifnjbeaaDoor.T
end
