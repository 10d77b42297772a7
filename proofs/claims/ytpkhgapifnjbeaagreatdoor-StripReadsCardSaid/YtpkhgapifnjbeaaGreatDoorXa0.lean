/- Put together by pack2.py. -/
import Derived.Test.YtpkhgapifnjbeaaGreatDoorProg
import Derived.Below
import Derived.Deep.Draws
import Derived.Deep.AppendLies
import Derived.Maps.AppendAt
import Derived.OwnWalk
import Derived.Laws.BytesArg
import Derived.Laws.MakeOwn
import Derived.Laws.OwnMore
import Derived.Deep.OwnRows
import Derived.Tactics
import Derived.Lib.ConvBytes
import Derived.Laws.Slices
import Derived.WalkKit
import Derived.KernelRfl
import Derived.RowKit3
import Derived.Deep.LoopGhost
import Derived.Deep.QuietTactic
import Derived.BigQuiet
import Derived.WideLaws
import Derived.Deep.DeepCutAuto
import Derived.Deep.CutBlock
import Derived.Deep.RegionHeld3
import Derived.Laws.Rows
import Derived.Lib.AppendStr
import Derived.ArgAppend
import Derived.Laws.IdiomCopy
import Derived.OrdersHeld
import Derived.Laws.BitsLemmas
import Derived.RowKit
import Derived.Test.YtpkhgapifnjbeaaGreatDoorXB4
set_option linter.unusedVariables false
set_option linter.unusedSimpArgs false
section
namespace Go.Proofs.YtpkhgapifnjbeaaGreatDoor.T
open RowKit G Rs Zw.PrintWords Zw.PrintLast Zw.PrintMore
attribute [local go_sem] id_ kd_ vd_ wd_ bd_ cd_ jd_ ld_
def errW : Option Int → Value
 | none => .nilIface
 | some c => .iface 0 (.int .i64 c)
theorem ta_ : errW none = .nilIface := rfl
theorem ua_ (c : Int) : errW (some c) = .iface 0 (.int .i64 c) := rfl
theorem gi_ : (Tryz.prog.info? 3).map (fun i => (i.zero, i.size, i.bytes)) = some (some (.int .i64 0), 1, 8) := by kernel_rfl
theorem info5 : (Tryz.prog.info? 5).map (fun i => (i.zero, i.size, i.bytes)) = some (some (.int .u8 0), 1, 1) := by kernel_rfl
structure S38 where
 f0 : Int
 f1 : Int
 f2 : Int
 f3 : Int
def jh_ (xs : List (List Int)) (i : Int) : (List Int) := xs.getD i.toNat ([] : List Int)
theorem ia1_ {w : World} {A : Option Addr} {n : Nat} {xs : List (List Int)} (h : Kd.C (Kd.slice 3 (Kd.int .i64)) w A n xs) (i : Int) (h0 : 0 ≤ i) (h1 : i < n) : ∃ ad A0 c0, A = some ad ∧ w.cell? (ad.add i.toNat) = some (.slice A0 (jh_ xs i).length c0) ∧ (jh_ xs i).length ≤ c0 ∧ (Kd.int .i64).C w A0 (jh_ xs i).length (jh_ xs i) := by
 obtain ⟨ad, c, e, _, hK, hc0⟩ := Kd.oi_ h ([] : List Int) i h0 h1
 have hc : ∀ j u, c[j]? = some u → w.cell? (ad.add (i.toNat * 1 + j)) = some u := hc0
 obtain ⟨A0, c0, rfl, l0, g0⟩ := hK
 exact ⟨ad, A0, c0, e, Q0, l0, g0⟩
theorem eqA38 (d : Nat) (w : World) (x0 y0 : Int) (x1 y1 : Int) (x2 y2 : Int) (x3 y3 : Int) :
  (Op.equalIn (d + 2) 38 (.agg #[.int .i64 x0, .int .i64 x1, .int .i64 x2, .int .i64 x3]) (.agg #[.int .i64 y0, .int .i64 y1, .int .i64 y2, .int .i64 y3])).run Tryz.prog w = .ok (x0 == y0 && (x1 == y1 && (x2 == y2 && (x3 == y3)))) w := by
 refine eqA_of Tryz.underlying38 Qb ?_
 refine is_ (by rfl) (by go_simp; rfl) (by go_simp; rfl) (by go_simp) ?_
 refine is_ (by rfl) (by go_simp; rfl) (by go_simp; rfl) (by go_simp) ?_
 refine is_ (by rfl) (by go_simp; rfl) (by go_simp; rfl) (by go_simp) ?_
 exact ud1_ (by rfl) (by go_simp; rfl) (by go_simp; rfl) (by go_simp)
def ya_ (w0 W : World) (g : Nat) (f0 : List Int) (f1 : Int) : Prop := ∃ A0 c0, W.heap[g]? = some (.cells #[.slice A0 f0.length c0, .int .i64 f1] 56 (0, 0)) ∧ w0.heap.size ≤ g ∧ Kd.C (Kd.int .i64) w0 A0 f0.length f0
theorem ya_.grown {w0 W : World} {g : Nat} {f0 : List Int} {f1 : Int} {W1 : World} {row : Option Nat} (h : ya_ w0 W g f0 f1) (hw : W.grownBy W1 row) (hne : some g ≠ row) : ya_ w0 W1 g f0 f1 := by
 obtain ⟨A0, c0, hb, hg, hr0⟩ := h
 exact ⟨A0, c0, ka1_ hb hw hne, hg, hr0⟩
theorem ya_.kept {w0 W : World} {g : Nat} {f0 : List Int} {f1 : Int} {W1 : World} {S : Nat → Prop} (h : ya_ w0 W g f0 f1) (hk : Kept W W1 S) (hne : ¬ S g) : ya_ w0 W1 g f0 f1 := by
 obtain ⟨A0, c0, hb, hg, hr0⟩ := h
 exact ⟨A0, c0, hd1_ hb hk hne, hg, hr0⟩
theorem ya_.below {w0 W : World} {g : Nat} {f0 : List Int} {f1 : Int} {W1 : World} (h : ya_ w0 W g f0 f1) (hw : Below W.heap.size W W1) : ya_ w0 W1 g f0 f1 := h.grown (pl_ hw none) Qo
theorem ya_.alloc {w0 W : World} {g : Nat} {f0 : List Int} {f1 : Int} (h : ya_ w0 W g f0 f1) (o : Obj) : ya_ w0 (W.alloc o) g f0 f1 := h.below (da_ (Below.refl _ _) o)
theorem ya_.drewN {w0 W : World} {g : Nat} {f0 : List Int} {f1 : Int} (h : ya_ w0 W g f0 f1) (m : Nat) : ya_ w0 (W.drewN m) g f0 f1 := h
theorem ya_.drew {w0 W : World} {g : Nat} {f0 : List Int} {f1 : Int} (h : ya_ w0 W g f0 f1) : ya_ w0 W.drew g f0 f1 := h
theorem ya_.at_ {w0 W : World} {g : Nat} {f0 : List Int} {f1 : Int} {w' : World} {m : Nat} (hq : W.drewN m = w') (h : ya_ w0 W g f0 f1) : ya_ w0 w' g f0 f1 := by subst hq; exact ya_.drewN h m
theorem ya_.apart {w0 W : World} {g : Nat} {f0 : List Int} {f1 : Int} {α : Type} {d : Kd α} {e : Nat} {base : Nat} {ok : Nat → Prop} {v : Value} {xs : List α} (h : ya_ w0 W g f0 f1) (ho : d.R e W base ok v xs) (ht : ∀ q, q ∈ e :: d.E → q ≠ 56) : d.R e W base (fun k => ok k ∧ k ≠ g) v xs := by
 obtain ⟨A0, c0, hb, hg, hr0⟩ := h
 exact Kd.th_ ho hb ht
theorem ya_.ir_ {w0 W : World} {g : Nat} {f0 : List Int} {f1 : Int} {α : Type} {d : Kd α} {e : Nat} {base : Nat} {ok : Nat → Prop} {v : Value} {xs : List α} (h : ya_ w0 W g f0 f1) (ho : d.R e W base ok v xs) (ht : e ≠ 56) : some g ≠ v.ownBlock := by
 obtain ⟨A0, c0, hb, hg, hr0⟩ := h
 exact Kd.R_ne ho hb ht
theorem ya_.lt {w0 W : World} {g : Nat} {f0 : List Int} {f1 : Int} (h : ya_ w0 W g f0 f1) : g < W.heap.size := by
 obtain ⟨A0, c0, hb, hg, hr0⟩ := h
 exact fj_ hb
theorem ya_.ge {w0 W : World} {g : Nat} {f0 : List Int} {f1 : Int} (h : ya_ w0 W g f0 f1) : w0.heap.size ≤ g := by
 obtain ⟨A0, c0, hb, hg, hr0⟩ := h
 exact hg
theorem ya_.far {w0 W : World} {g : Nat} {f0 : List Int} {f1 : Int} {p : Addr} (h : ya_ w0 W g f0 f1) (hne : g ≠ p.block) (u : Value) : ya_ w0 (W.setCell p u) g f0 f1 := by
 obtain ⟨A0, c0, hb, hg, hr0⟩ := h
 exact ⟨A0, c0, uh_ hb hne u, hg, hr0⟩
theorem gt_ {W : World} {g : Nat} {A0 : Option Addr} {c0 : Nat} {f0 : List Int} {f1 : Int} (h : W.heap[g]? = some (.cells #[.slice A0 f0.length c0, .int .i64 f1] 56 (0, 0))) : W.cell? ⟨g, 0, none⟩ = some (.slice A0 f0.length c0) := (mb_ h 0).trans rfl
theorem ht_ {W : World} {g : Nat} {A0 : Option Addr} {c0 : Nat} {f0 : List Int} {f1 : Int} (h : W.heap[g]? = some (.cells #[.slice A0 f0.length c0, .int .i64 f1] 56 (0, 0))) : W.cell? ⟨g, 1, none⟩ = some (.int .i64 f1) := (mb_ h 1).trans rfl
theorem ya_.je_ {w0 W : World} {g : Nat} {f0 : List Int} {f1 : Int} (h : ya_ w0 W g f0 f1) (x : Int) : ya_ w0 (W.setCell ⟨g, 1, none⟩ (.int .i64 x)) g f0 x := by
 obtain ⟨A0, c0, hb, hg, hr0⟩ := h
 exact ⟨A0, c0, by simpa using lv_ hb 1 (.int .i64 x), hg, hr0⟩
def se_.f (l0 : List Int) : Option (List Int × Int) := if (l0.length : Int) > 600 then (if 600 ≤ (l0.length : Int) then (some (l0.take 600, 0)) else (none)) else (some (l0, 0))
set_option maxHeartbeats 8000000 in
set_option maxRecDepth 100000 in
theorem se_.calls (A0 : Option Addr) (c0 : Nat) (l0 : List Int) (r1 : List Int) (r2 : Int) (w0 w : World) (hB : Below w0.heap.size w0 w) (hr0 : Kd.C (Kd.int .i64) w0 A0 l0.length l0) (hc0 : l0.length ≤ c0) (h : se_.f l0 = some (r1, r2)) :
  Calls Tryz.prog 8 #[.slice A0 l0.length c0] w fun e w' => ∃ g_ : Nat, e = .returned (.pointer (some ⟨g_, 0, none⟩)) ∧ ya_ w0 w' g_ r1 r2 ∧ Below w0.heap.size w0 w' ∧ Below w.heap.size w w' := by
 have hu56 := Tryz.underlying56
 have HR0 := ba_.mk hr0
 have HC0 := ba_.mk hc0
 clear hr0 hc0
 have HBW := ba_.mk (Below.refl w.heap.size w)
 have HW0 := ba_.mk hB.size
 have HB := ba_.mk hB
 clear hB
 have H : (if (l0.length : Int) > 600 then (if 600 ≤ (l0.length : Int) then (some (l0.take 600, 0)) else (none)) else (some (l0, 0))) = some (r1, r2) := h
 clear h
 by_cases c2 : (l0.length : Int) > 600
 rotate_left
 ·rw [if_neg c2] at H
  have c2b0 : decide (600 < (l0.length : Int)) = false := decide_eq_false c2
  have c2b1 : decide (600 < l0.length) = false := decide_eq_false Qa
  clear c2
  simp only [Option.some.injEq, Prod.mk.injEq] at H
  obtain ⟨rfl, rfl⟩ := H
  go_enter Tryz.func8, Tryz.ntmps8
  go_wp2_with (first | ((with_reducible refine md_ (N := 10) rfl ?_); refine fe_ ?hg (N := 10) ?hd (cs := #[.slice A0 l0.length c0, .int .i64 0]) (t := 56) ?hr ?_; (case hd => rfl); (case hg => rfl); (case hr => exact Qt); intro gb103 hg w6 hbox hb; have n0_ := ba_.mk (wa_ HBW.out hb); have n1_ := ba_.mk (wa_ Qe hb); have n2_ := ba_.mk (hbox); have n3_ := ba_.mk ((by rw [hg]; exact (za_ Yl) : w.heap.size ≤ gb103)); have n4_ := ba_.mk ((Nat.le_trans HW0.out (by rw [hg]; exact (za_ Yl) : w.heap.size ≤ gb103) : w0.heap.size ≤ gb103)); clear HBW; clear HB; have HBW := n0_; have HB := n1_; have BK103 := n2_; have GW103 := n3_; have GE103 := n4_; clear n0_ n1_ n2_ n3_ n4_; clear hb hbox hg))
  go_ret
  exact ⟨_, rfl, (show ya_ w0 _ gb103 l0 0 from ⟨_, _, by (with_reducible repeat (first | refine db_ ?_ _ | refine pb_ ?_ | refine cb_ ?_ _)); exact BK103.out, GE103.out, HR0.out⟩), by repeat (first | (with_reducible first | exact HB.out | apply da_ | apply aa_ | apply ca_ | refine sa_ ?_ GE103.out) | exact HB.out), by repeat (first | (with_reducible first | exact HBW.out | apply da_ | apply aa_ | apply ca_ | refine sa_ ?_ GW103.out) | exact HBW.out)⟩
 rw [if_pos c2] at H
 have c2b0 : decide (600 < (l0.length : Int)) = true := decide_eq_true c2
 have c2b1 : decide (600 < l0.length) = true := decide_eq_true Qa
 clear c2
 obtain ⟨c3, H⟩ := Qn H
 have c3b0 := eq_true c3
 have c3b1 := decide_eq_true c3
 clear c3
 simp only [Option.some.injEq, Prod.mk.injEq] at H
 obtain ⟨rfl, rfl⟩ := H
 obtain ⟨i04, hi04, _, hsz4, _⟩ := info_parts gi_
 obtain ⟨hcut4, hA4, hC4⟩ := rs_ (P := Tryz.prog) (Value.int .i64) 0 22 3 .i64 Tryz.underlying22 hi04 hsz4 A0 c0 l0 600 Qa (of_decide_eq_true Qg) HC0.out
 have HR101 := ba_.mk (Kd.wq_ (h1 := fun _ => rfl) (hA4 _ (Kd.ll_ HR0.out)))
 have HC101 := ba_.mk hC4
 clear hA4 hC4 hi04 hsz4
 go_enter Tryz.func8, Tryz.ntmps8
 go_wp2_with (first | ((with_reducible refine md_ (N := 10) rfl ?_); refine fe_ ?hg (N := 10) ?hd (cs := #[.slice A0 (l0.take 600).length c0, .int .i64 0]) (t := 56) ?hr ?_; (case hd => rfl); (case hg => rfl); (case hr => exact Qt); intro gb102 hg w5 hbox hb; have n0_ := ba_.mk (wa_ HBW.out hb); have n1_ := ba_.mk (wa_ Qe hb); have n2_ := ba_.mk (hbox); have n3_ := ba_.mk ((by rw [hg]; exact (za_ Yl) : w.heap.size ≤ gb102)); have n4_ := ba_.mk ((Nat.le_trans HW0.out (by rw [hg]; exact (za_ Yl) : w.heap.size ≤ gb102) : w0.heap.size ≤ gb102)); clear HBW; clear HB; have HBW := n0_; have HB := n1_; have BK102 := n2_; have GW102 := n3_; have GE102 := n4_; clear n0_ n1_ n2_ n3_ n4_; clear hb hbox hg))
 go_ret
 exact ⟨_, rfl, (show ya_ w0 _ gb102 (l0.take 600) 0 from ⟨_, _, by (with_reducible repeat (first | refine db_ ?_ _ | refine pb_ ?_ | refine cb_ ?_ _)); exact BK102.out, GE102.out, HR101.out⟩), by repeat (first | (with_reducible first | exact HB.out | apply da_ | apply aa_ | apply ca_ | refine sa_ ?_ GE102.out) | exact HB.out), by repeat (first | (with_reducible first | exact HBW.out | apply da_ | apply aa_ | apply ca_ | refine sa_ ?_ GW102.out) | exact HBW.out)⟩
def le_.f (a0 : Int) (a1 : Int) : Option (Int) := if a1 < 1 then (some 0) else (if a1 = 0 then (none) else (if (Int.tmod a0 a1) < 0 then (some (wrap64 ((Int.tmod a0 a1) + a1))) else (some (Int.tmod a0 a1))))
set_option maxHeartbeats 8000000 in
set_option maxRecDepth 100000 in
theorem le_.calls (a0 : Int) (a1 : Int) (r : Int) (w : World) (h : le_.f a0 a1 = some r) :
  Calls Tryz.prog 61 #[.int .i64 a0, .int .i64 a1] w fun e w' => e = .returned (.int .i64 r) ∧ ja_ w w' := by
 have H : (if a1 < 1 then (some 0) else (if a1 = 0 then (none) else (if (Int.tmod a0 a1) < 0 then (some (wrap64 ((Int.tmod a0 a1) + a1))) else (some (Int.tmod a0 a1))))) = some r := h
 clear h
 by_cases c3 : a1 < 1
 ·rw [if_pos c3] at H
  have c3b0 := decide_eq_true c3
  clear c3
  obtain rfl := Option.some.inj H
  go_enter Tryz.func61, Tryz.ntmps61
  go_wp2
  go_ret
  exact ⟨Qi, Qp⟩
 rw [if_neg c3] at H
 have c3b0 := decide_eq_false c3
 clear c3
 by_cases c4 : a1 = 0
 ·rw [if_pos c4] at H
  exact absurd H Qo
 rw [if_neg c4] at H
 have c4b0 : (a1 == 0) = false := beq_eq_false_iff_ne.mpr c4
 have c4b1 : (a1 != 0) = true := bne_iff_ne.mpr c4
 by_cases c5 : (Int.tmod a0 a1) < 0
 ·rw [if_pos c5] at H
  have c5b0 := decide_eq_true c5
  clear c5
  obtain rfl := Option.some.inj H
  go_enter Tryz.func61, Tryz.ntmps61
  go_wp2
  go_ret
  exact ⟨Qi, Qp⟩
 rw [if_neg c5] at H
 have c5b0 := decide_eq_false c5
 clear c5
 obtain rfl := Option.some.inj H
 go_enter Tryz.func61, Tryz.ntmps61
 go_wp2
 go_ret
 exact ⟨Qi, Qp⟩
def de_.f (s0_0 : List Int) (s0_1 : Int) : Option (Int × Int) := if s0_1 ≥ (s0_0.length : Int) then (some (0, s0_1)) else (if 0 ≤ (wrap64 ((wrap64 (s0_1 + 1)) - 1)) then (if (wrap64 ((wrap64 (s0_1 + 1)) - 1)) < (s0_0.length : Int) then (some (rd s0_0 (wrap64 ((wrap64 (s0_1 + 1)) - 1)), wrap64 (s0_1 + 1))) else (none)) else (none))
set_option maxHeartbeats 8000000 in
set_option maxRecDepth 100000 in
theorem de_.calls (g : Nat) (s0_0 : List Int) (s0_1 : Int) (r1 : Int) (r2 : Int) (w0 w : World) (hI : ya_ w0 w g s0_0 s0_1) (hB : Below w0.heap.size w0 w) (h : de_.f s0_0 s0_1 = some (r1, r2)) :
  Calls Tryz.prog 62 #[.pointer (some ⟨g, 0, none⟩)] w fun e w' => e = .returned (.int .i64 r1) ∧ ya_ w0 w' g s0_0 r2 ∧ Below w0.heap.size w0 w' ∧ vb_ w w' g none := by
 have HI0 := ba_.mk hI
 have HK := ba_.mk (vb_.refl w g none)
 have HL := ba_.mk hB.size
 clear hI
 have HW0 := ba_.mk hB.size
 have HB := ba_.mk hB
 clear hB
 have H : (if s0_1 ≥ (s0_0.length : Int) then (some (0, s0_1)) else (if 0 ≤ (wrap64 ((wrap64 (s0_1 + 1)) - 1)) then (if (wrap64 ((wrap64 (s0_1 + 1)) - 1)) < (s0_0.length : Int) then (some (rd s0_0 (wrap64 ((wrap64 (s0_1 + 1)) - 1)), wrap64 (s0_1 + 1))) else (none)) else (none))) = some (r1, r2) := h
 clear h
 by_cases c2 : s0_1 ≥ (s0_0.length : Int)
 ·rw [if_pos c2] at H
  have c2b0 : decide ((s0_0.length : Int) ≤ s0_1) = true := decide_eq_true c2
  clear c2
  simp only [Option.some.injEq, Prod.mk.injEq] at H
  obtain ⟨rfl, rfl⟩ := H
  obtain ⟨ASz3_0, cSz3_0, HGz3, hgz3, HSz3_0⟩ := HI0.out
  have hcz3_0 := gt_ HGz3
  have hcz3_1 := ht_ HGz3
  have hfz3_1 := qa_ HGz3 1
  clear HGz3 hgz3
  go_enter Tryz.func62, Tryz.ntmps62
  go_wp2
  repeat (go_quiet (fail); try go_wp2)
  go_ret
  exact ⟨Qq, Qx, Qy, Qs⟩
 rw [if_neg c2] at H
 have c2b0 : decide ((s0_0.length : Int) ≤ s0_1) = false := decide_eq_false c2
 clear c2
 obtain ⟨ji4, hji4⟩ : ∃ j_ : Int, (wrap64 ((wrap64 (s0_1 + 1)) - 1)) = j_ := ⟨_, rfl⟩
 replace H : (if 0 ≤ (ji4) then (if (ji4) < (s0_0.length : Int) then (some (rd s0_0 (ji4), wrap64 (s0_1 + 1))) else (none)) else (none)) = some (r1, r2) := by first | (rw [hji4] at H; exact H) | (simp only [hji4] at H ⊢; exact H)
 have hji4w : (IntKind.i64.wrap ((wrap64 (s0_1 + 1)) - 1)) = ji4 := (yb_ _).trans hji4
 obtain ⟨c5, H⟩ := Qn H
 have c5b0 := decide_eq_true c5
 clear c5
 obtain ⟨c6, H⟩ := Qn H
 have c6b0 := decide_eq_true c6
 clear c6
 simp only [Option.some.injEq, Prod.mk.injEq] at H
 obtain ⟨rfl, rfl⟩ := H
 obtain ⟨ASz7_0, cSz7_0, HGz7, hgz7, HSz7_0⟩ := HI0.out
 have hcz7_0 := gt_ HGz7
 have hcz7_1 := ht_ HGz7
 have hfz7_1 := qa_ HGz7 1
 clear HGz7 hgz7
 have p104 : 0 ≤ ((ji4) : Int) := of_decide_eq_true Qg
 have q104 : (ji4) < (s0_0.length : Int) := of_decide_eq_true Qg
 obtain ⟨ad104, e104, hx104_0⟩ := Kd.sd_ HSz7_0 (ji4) p104 q104
 cases e104
 have hn104_0 : ad104.block ≠ g := Nat.ne_of_lt (Nat.lt_of_lt_of_le (by have := World.block_lt_of_cell? _ _ hx104_0; first | rwa [oa_] at this | exact this) (ya_.ge HI0.out))
 replace hx104_0 := ri_ HB.out hx104_0
 replace hx104_0 := (cell_far (p := ⟨g, 1, none⟩) (by first | (rw [oa_]; exact hn104_0) | (show (Addr.add _ _).block ≠ _; rw [oa_]; exact hn104_0) | exact hn104_0) (.int .i64 (wrap64 (s0_1 + 1)))).trans hx104_0
 (try have hy104_0 := fun (n_ : Nat) => (show (((w.drewN n_).setCell ⟨g, 1, none⟩ (.int .i64 (wrap64 (s0_1 + 1))))).cell? _ = some _ from hx104_0))
 clear hn104_0
 replace p104 := eq_true p104
 replace q104 := eq_true q104
 go_enter Tryz.func62, Tryz.ntmps62
 go_wp2
 repeat (go_quiet (fail); try go_wp2)
 go_ret
 exact ⟨by first | rfl | (simp [ta_, ua_] <;> rfl) | (simp only [← hji4]; first | rfl | (simp [ta_, ua_] <;> rfl)) | (simp [*, ta_, ua_] <;> rfl), Qx, Qy, Qs⟩
def kb_.f (s0_0 : List Int) (s0_1 : Int) (a1 : Int) : Option (Int × Int) := (de_.f s0_0 s0_1).bind fun bt105 => ((le_.f bt105.1 a1).bind fun t107 => (some (t107, bt105.2)))
set_option maxHeartbeats 8000000 in
set_option maxRecDepth 100000 in
theorem kb_.calls (g : Nat) (s0_0 : List Int) (s0_1 : Int) (a1 : Int) (r1 : Int) (r2 : Int) (w0 w : World) (hI : ya_ w0 w g s0_0 s0_1) (hB : Below w0.heap.size w0 w) (h : kb_.f s0_0 s0_1 a1 = some (r1, r2)) :
  Calls Tryz.prog 30 #[.pointer (some ⟨g, 0, none⟩), .int .i64 a1] w fun e w' => e = .returned (.int .i64 r1) ∧ ya_ w0 w' g s0_0 r2 ∧ Below w0.heap.size w0 w' ∧ vb_ w w' g none := by
 have HI0 := ba_.mk hI
 have HK := ba_.mk (vb_.refl w g none)
 have HL := ba_.mk hB.size
 clear hI
 have HW0 := ba_.mk hB.size
 have HB := ba_.mk hB
 clear hB
 have H : ((de_.f s0_0 s0_1).bind fun bt105 => ((le_.f bt105.1 a1).bind fun t107 => (some (t107, bt105.2)))) = some (r1, r2) := h
 clear h
 obtain ⟨⟨t105, t106⟩, A3, H⟩ := Qk H
 try dsimp only at H
 obtain ⟨t107, A4, H⟩ := Qk H
 try dsimp only at H
 simp only [Option.some.injEq, Prod.mk.injEq] at H
 obtain ⟨rfl, rfl⟩ := H
 go_enter Tryz.func30, Tryz.ntmps30
 go_wp2_with (first | ((with_reducible refine ia_ (f := 62) rfl ?_); refine gc_ (some 6) rfl rfl Tryz.func62 Qb rfl #[.pointer (some ⟨g, 0, none⟩)] rfl Qj ?_; (with_reducible refine (de_.calls g s0_0 s0_1 t105 t106 w0 _ ?side1 ?side2 A3.out).mono ?_); (case side1 => exact Q7); (case side2 => exact Q8); rintro e w5 ⟨rfl, hi, hb, hk⟩; refine ⟨_, rfl, ?_⟩; have n0_ := ba_.mk (vb_.trans Qs hk (.inl rfl)); have n1_ := ba_.mk (hb); have n2_ := ba_.mk (hi); clear HK; clear HB; clear HI0; have HK := n0_; have HB := n1_; have HI0 := n2_; clear n0_ n1_ n2_; (try clear hb); (try clear hb2); (try clear hk); (try clear hi)) | ((with_reducible refine ia_ (f := 61) rfl ?_); refine gc_ (some 8) rfl rfl Tryz.func61 Qb rfl #[.int .i64 t105, .int .i64 a1] rfl Qj ?_; (with_reducible refine (le_.calls t105 a1 t107 _ A4.out).mono ?_); rintro e w' ⟨rfl, ⟨nd, rfl⟩⟩; refine ⟨_, rfl, ?_⟩))
 go_ret
 exact ⟨Qq, Qx, Qy, Qs⟩
def wb_.f (s0_0 : List Int) (s0_1 : Int) (a1 : Int) (a2 : Int) : Option (Int × Int) := (kb_.f s0_0 s0_1 (wrap64 ((wrap64 (a2 - a1)) + 1))).bind fun bt108 => (some (wrap64 (a1 + bt108.1), bt108.2))
set_option maxHeartbeats 8000000 in
set_option maxRecDepth 100000 in
theorem wb_.calls (g : Nat) (s0_0 : List Int) (s0_1 : Int) (a1 : Int) (a2 : Int) (r1 : Int) (r2 : Int) (w0 w : World) (hI : ya_ w0 w g s0_0 s0_1) (hB : Below w0.heap.size w0 w) (h : wb_.f s0_0 s0_1 a1 a2 = some (r1, r2)) :
  Calls Tryz.prog 31 #[.pointer (some ⟨g, 0, none⟩), .int .i64 a1, .int .i64 a2] w fun e w' => e = .returned (.int .i64 r1) ∧ ya_ w0 w' g s0_0 r2 ∧ Below w0.heap.size w0 w' ∧ vb_ w w' g none := by
 have HI0 := ba_.mk hI
 have HK := ba_.mk (vb_.refl w g none)
 have HL := ba_.mk hB.size
 clear hI
 have HW0 := ba_.mk hB.size
 have HB := ba_.mk hB
 clear hB
 have H : ((kb_.f s0_0 s0_1 (wrap64 ((wrap64 (a2 - a1)) + 1))).bind fun bt108 => (some (wrap64 (a1 + bt108.1), bt108.2))) = some (r1, r2) := h
 clear h
 obtain ⟨⟨t108, t109⟩, A4, H⟩ := Qk H
 try dsimp only at H
 simp only [Option.some.injEq, Prod.mk.injEq] at H
 obtain ⟨rfl, rfl⟩ := H
 go_enter Tryz.func31, Tryz.ntmps31
 go_wp2_with (first | ((with_reducible refine ia_ (f := 30) rfl ?_); refine gc_ (some 13) rfl rfl Tryz.func30 Qb rfl #[.pointer (some ⟨g, 0, none⟩), .int .i64 (wrap64 ((wrap64 (a2 - a1)) + 1))] rfl Qj ?_; (with_reducible refine (kb_.calls g s0_0 s0_1 (wrap64 ((wrap64 (a2 - a1)) + 1)) t108 t109 w0 _ ?side1 ?side2 A4.out).mono ?_); (case side1 => exact Q7); (case side2 => exact Q8); rintro e w5 ⟨rfl, hi, hb, hk⟩; refine ⟨_, rfl, ?_⟩; have n0_ := ba_.mk (vb_.trans Qs hk (.inl rfl)); have n1_ := ba_.mk (hb); have n2_ := ba_.mk (hi); clear HK; clear HB; clear HI0; have HK := n0_; have HB := n1_; have HI0 := n2_; clear n0_ n1_ n2_; (try clear hb); (try clear hb2); (try clear hk); (try clear hi)))
 go_ret
 exact ⟨Qq, Qx, Qy, Qs⟩
def zc_.f (s0_0 : List Int) (s0_1 : Int) (l1 : List Int) : Option (Int × Int) := (kb_.f s0_0 s0_1 (l1.length : Int)).bind fun bt110 => (if 0 ≤ bt110.1 then (if bt110.1 < (l1.length : Int) then (some (rd l1 bt110.1, bt110.2)) else (none)) else (none))
set_option maxHeartbeats 8000000 in
set_option maxRecDepth 100000 in
theorem zc_.calls (g : Nat) (s0_0 : List Int) (s0_1 : Int) (A1 : Option Addr) (c1 : Nat) (l1 : List Int) (r1 : Int) (r2 : Int) (w0 w : World) (hI : ya_ w0 w g s0_0 s0_1) (hB : Below w0.heap.size w0 w) (hr1 : Kd.C (Kd.int .i64) w A1 l1.length l1) (hc1 : l1.length ≤ c1) (hf1 : ∀ ad, A1 = some ad → 0 < l1.length → ad.block ≠ g) (h : zc_.f s0_0 s0_1 l1 = some (r1, r2)) :
  Calls Tryz.prog 35 #[.pointer (some ⟨g, 0, none⟩), .slice A1 l1.length c1] w fun e w' => e = .returned (.int .i64 r1) ∧ ya_ w0 w' g s0_0 r2 ∧ Below w0.heap.size w0 w' ∧ vb_ w w' g none := by
 have HR1 := ba_.mk hr1
 have HC1 := ba_.mk hc1
 clear hr1 hc1
 have HI0 := ba_.mk hI
 have HK := ba_.mk (vb_.refl w g none)
 have HL := ba_.mk hB.size
 clear hI
 have HW0 := ba_.mk hB.size
 have HB := ba_.mk hB
 clear hB
 have H : ((kb_.f s0_0 s0_1 (l1.length : Int)).bind fun bt110 => (if 0 ≤ bt110.1 then (if bt110.1 < (l1.length : Int) then (some (rd l1 bt110.1, bt110.2)) else (none)) else (none))) = some (r1, r2) := h
 clear h
 obtain ⟨⟨t110, t111⟩, A3, H⟩ := Qk H
 try dsimp only at H
 obtain ⟨c4, H⟩ := Qn H
 have c4b0 := decide_eq_true c4
 clear c4
 obtain ⟨c5, H⟩ := Qn H
 have c5b0 := decide_eq_true c5
 clear c5
 simp only [Option.some.injEq, Prod.mk.injEq] at H
 obtain ⟨rfl, rfl⟩ := H
 go_enter Tryz.func35, Tryz.ntmps35
 go_wp2_with (first | ((with_reducible refine ia_ (f := 30) rfl ?_); refine gc_ (some 9) rfl rfl Tryz.func30 Qb rfl #[.pointer (some ⟨g, 0, none⟩), .int .i64 (l1.length : Int)] rfl Qj ?_; (with_reducible refine (kb_.calls g s0_0 s0_1 (l1.length : Int) t110 t111 w0 _ ?side1 ?side2 A3.out).mono ?_); (case side1 => exact Q7); (case side2 => exact Q8); rintro e w6 ⟨rfl, hi, hb, hk⟩; refine ⟨_, rfl, ?_⟩; have n0_ := ba_.mk (vb_.trans Qs hk (.inl rfl)); have n1_ := ba_.mk (hb); have n2_ := ba_.mk (hi); clear HK; clear HB; clear HI0; have HK := n0_; have HB := n1_; have HI0 := n2_; clear n0_ n1_ n2_; (try clear hb); (try clear hb2); (try clear hk); (try clear hi); have p112 : 0 ≤ (t110 : Int) := of_decide_eq_true Qg; have q112 : t110 < (l1.length : Int) := of_decide_eq_true Qg; obtain ⟨ad112, e112, hx112_0⟩ := Kd.sd_ HR1.out t110 p112 q112; cases e112; replace hx112_0 := lp_ HK.out hx112_0 (by first | (rw [oa_]; exact hf1 _ rfl Qa) | exact hf1 _ rfl Qa | exact hf1 ad112 rfl Qa); replace p112 := eq_true p112; replace q112 := eq_true q112))
 go_ret
 exact ⟨Qq, Qx, Qy, Qs⟩
def nd_.f (s0_0 : List Int) (s0_1 : Int) (a1 : Int) : Option (Bool × Int) := (kb_.f s0_0 s0_1 a1).bind fun bt113 => (some ((bt113.1 == (wrap64 (a1 - 1))), bt113.2))
set_option maxHeartbeats 8000000 in
set_option maxRecDepth 100000 in
theorem nd_.calls (g : Nat) (s0_0 : List Int) (s0_1 : Int) (a1 : Int) (r1 : Bool) (r2 : Int) (w0 w : World) (hI : ya_ w0 w g s0_0 s0_1) (hB : Below w0.heap.size w0 w) (h : nd_.f s0_0 s0_1 a1 = some (r1, r2)) :
  Calls Tryz.prog 34 #[.pointer (some ⟨g, 0, none⟩), .int .i64 a1] w fun e w' => e = .returned (.bool r1) ∧ ya_ w0 w' g s0_0 r2 ∧ Below w0.heap.size w0 w' ∧ vb_ w w' g none := by
 have HI0 := ba_.mk hI
 have HK := ba_.mk (vb_.refl w g none)
 have HL := ba_.mk hB.size
 clear hI
 have HW0 := ba_.mk hB.size
 have HB := ba_.mk hB
 clear hB
 have H : ((kb_.f s0_0 s0_1 a1).bind fun bt113 => (some ((bt113.1 == (wrap64 (a1 - 1))), bt113.2))) = some (r1, r2) := h
 clear h
 obtain ⟨⟨t113, t114⟩, A3, H⟩ := Qk H
 try dsimp only at H
 simp only [Option.some.injEq, Prod.mk.injEq] at H
 obtain ⟨rfl, rfl⟩ := H
 go_enter Tryz.func34, Tryz.ntmps34
 go_wp2_with (first | ((with_reducible refine ia_ (f := 30) rfl ?_); refine gc_ (some 7) rfl rfl Tryz.func30 Qb rfl #[.pointer (some ⟨g, 0, none⟩), .int .i64 a1] rfl Qj ?_; (with_reducible refine (kb_.calls g s0_0 s0_1 a1 t113 t114 w0 _ ?side1 ?side2 A3.out).mono ?_); (case side1 => exact Q7); (case side2 => exact Q8); rintro e w4 ⟨rfl, hi, hb, hk⟩; refine ⟨_, rfl, ?_⟩; have n0_ := ba_.mk (vb_.trans Qs hk (.inl rfl)); have n1_ := ba_.mk (hb); have n2_ := ba_.mk (hi); clear HK; clear HB; clear HI0; have HK := n0_; have HB := n1_; have HI0 := n2_; clear n0_ n1_ n2_; (try clear hb); (try clear hb2); (try clear hk); (try clear hi)))
 go_ret
 exact ⟨Qq, Qx, Qy, Qs⟩
def ud_.f (s0_0 : List Int) (s0_1 : Int) : Option (Int × Int) := (zc_.f s0_0 s0_1 (([(-1), 0, 1, 2, 31, 32, 99, 100, 200, 201, 9999, 10000, 1000000, 1000001, 1152921504606846976, 1152921504606846977, (-1152921504606846976), 9223372036854775807, (-9223372036854775808)] : List Int))).bind fun bt118 => (some (bt118.1, bt118.2))
set_option maxHeartbeats 8000000 in
set_option maxRecDepth 100000 in
theorem ud_.calls (g : Nat) (s0_0 : List Int) (s0_1 : Int) (r1 : Int) (r2 : Int) (w0 w : World) (hI : ya_ w0 w g s0_0 s0_1) (hB : Below w0.heap.size w0 w) (h : ud_.f s0_0 s0_1 = some (r1, r2)) :
  Calls Tryz.prog 83 #[.pointer (some ⟨g, 0, none⟩)] w fun e w' => e = .returned (.int .i64 r1) ∧ ya_ w0 w' g s0_0 r2 ∧ Below w0.heap.size w0 w' ∧ vb_ w w' g none := by
 have HI0 := ba_.mk hI
 have HK := ba_.mk (vb_.refl w g none)
 have HL := ba_.mk hB.size
 clear hI
 have HW0 := ba_.mk hB.size
 have HB := ba_.mk hB
 clear hB
 have H : ((zc_.f s0_0 s0_1 (([(-1), 0, 1, 2, 31, 32, 99, 100, 200, 201, 9999, 10000, 1000000, 1000001, 1152921504606846976, 1152921504606846977, (-1152921504606846976), 9223372036854775807, (-9223372036854775808)] : List Int))).bind fun bt118 => (some (bt118.1, bt118.2))) = some (r1, r2) := h
 clear h
 obtain ⟨y115, hy115⟩ : ∃ y_ : List Int, y_ = (([(-1), 0, 1, 2, 31, 32, 99, 100, 200, 201, 9999, 10000, 1000000, 1000001, 1152921504606846976, 1152921504606846977, (-1152921504606846976), 9223372036854775807, (-9223372036854775808)] : List Int)) := ⟨_, rfl⟩
 replace H : ((zc_.f s0_0 s0_1 y115).bind fun bt118 => (some (bt118.1, bt118.2))) = some (r1, r2) := by first | (rw [hy115]; with_reducible exact H) | (have H2_ := (Option.bind_some _ _).symm.trans H; rw [hy115]; with_reducible exact H2_) | (have H2_ := (Option.bind_some _ _).symm.trans H; with_reducible exact H2_) | with_reducible exact H | (rw [hy115]; exact H) | exact H
 have Ny115 := ba_.mk hy115
 clear hy115
 obtain ⟨⟨t118, t119⟩, A2, H⟩ := Qk H
 try dsimp only at H
 simp only [Option.some.injEq, Prod.mk.injEq] at H
 obtain ⟨rfl, rfl⟩ := H
 go_enter Tryz.func83, Tryz.ntmps83
 go_wp2_with (first | ((with_reducible refine md_ (N := 4) rfl ?_); refine Kd.sm_ (Kd.int .i64) _ 3 ?hg (N := 4) ?hd (xs := ([(-1), 0, 1, 2, 31, 32, 99, 100, 200, 201, 9999, 10000, 1000000, 1000001, 1152921504606846976, 1152921504606846977, (-1152921504606846976), 9223372036854775807, (-9223372036854775808)] : List Int)) (inner := [.int .i64 (-1), .int .i64 0, .int .i64 1, .int .i64 2, .int .i64 31, .int .i64 32, .int .i64 99, .int .i64 100, .int .i64 200, .int .i64 201, .int .i64 9999, .int .i64 10000, .int .i64 1000000, .int .i64 1000001, .int .i64 1152921504606846976, .int .i64 1152921504606846977, .int .i64 (-1152921504606846976), .int .i64 9223372036854775807, .int .i64 (-9223372036854775808)]) (ok := fun _ => True) (okp := fun _ => True) ?hr ?hp (fun _ hk => hk) trivial (Below.refl _ _) (Nat.le_refl _) Qo ?_; (case hd => rfl); (case hg => rfl); (case hr => exact Qt); (case hp => exact (Reps.one (show Kd.M (Kd.int .i64) _ _ _ (-1) [.int .i64 (-1)] from rfl) (Reps.one (show Kd.M (Kd.int .i64) _ _ _ 0 [.int .i64 0] from rfl) (Reps.one (show Kd.M (Kd.int .i64) _ _ _ 1 [.int .i64 1] from rfl) (Reps.one (show Kd.M (Kd.int .i64) _ _ _ 2 [.int .i64 2] from rfl) (Reps.one (show Kd.M (Kd.int .i64) _ _ _ 31 [.int .i64 31] from rfl) (Reps.one (show Kd.M (Kd.int .i64) _ _ _ 32 [.int .i64 32] from rfl) (Reps.one (show Kd.M (Kd.int .i64) _ _ _ 99 [.int .i64 99] from rfl) (Reps.one (show Kd.M (Kd.int .i64) _ _ _ 100 [.int .i64 100] from rfl) (Reps.one (show Kd.M (Kd.int .i64) _ _ _ 200 [.int .i64 200] from rfl) (Reps.one (show Kd.M (Kd.int .i64) _ _ _ 201 [.int .i64 201] from rfl) (Reps.one (show Kd.M (Kd.int .i64) _ _ _ 9999 [.int .i64 9999] from rfl) (Reps.one (show Kd.M (Kd.int .i64) _ _ _ 10000 [.int .i64 10000] from rfl) (Reps.one (show Kd.M (Kd.int .i64) _ _ _ 1000000 [.int .i64 1000000] from rfl) (Reps.one (show Kd.M (Kd.int .i64) _ _ _ 1000001 [.int .i64 1000001] from rfl) (Reps.one (show Kd.M (Kd.int .i64) _ _ _ 1152921504606846976 [.int .i64 1152921504606846976] from rfl) (Reps.one (show Kd.M (Kd.int .i64) _ _ _ 1152921504606846977 [.int .i64 1152921504606846977] from rfl) (Reps.one (show Kd.M (Kd.int .i64) _ _ _ (-1152921504606846976) [.int .i64 (-1152921504606846976)] from rfl) (Reps.one (show Kd.M (Kd.int .i64) _ _ _ 9223372036854775807 [.int .i64 9223372036854775807] from rfl) (Reps.one (show Kd.M (Kd.int .i64) _ _ _ (-9223372036854775808) [.int .i64 (-9223372036854775808)] from rfl) (Reps.none _ _))))))))))))))))))))); intro v116 w3 ho4 hb hg_ hnew_; clear hg_ hnew_; (first | rw [← Ny115.out] at ho4 | (simp only [Int.reduceToNat] at ho4; rw [← Ny115.out] at ho4)); have n0_ := ba_.mk (Kd.td_ ho4 (pj_ (w := w) (g := g) (row := none) Qs)); have n1_ := ba_.mk (ya_.below Qx hb); have n2_ := ba_.mk (vb_.trans Qs (vb_.qi_ hb g none) (.inl rfl)); have n3_ := ba_.mk (wa_ Qy hb); clear HI0; clear HK; clear HB; have HO117 := n0_; have HI0 := n1_; have HK := n2_; have HB := n3_; clear n0_ n1_ n2_ n3_; clear hb ho4; obtain ⟨Ao5, co5, eo5⟩ := Kd.pd_ HO117.out; subst eo5) | ((with_reducible refine ia_ (f := 35) rfl ?_); refine gc_ (some 5) rfl rfl Tryz.func35 Qb rfl #[.pointer (some ⟨g, 0, none⟩), .slice Ao5 y115.length co5] rfl Qj ?_; (with_reducible refine (zc_.calls g s0_0 s0_1 _ _ y115 t118 t119 w0 _ ?side1 ?side2 ?side3 ?side4 ?side5 A2.out).mono ?_); (case side1 => exact Q7); (case side2 => exact Q8); (case side3 => repeat (first | exact (Kd.cc_ HO117.out).2.2 | (with_reducible refine Kd.gd_ ?_ _) | (with_reducible refine Kd.hd_ ?_ _) | (with_reducible refine Kd.yd_ ?_))); (case side4 => exact (Kd.cc_ HO117.out).2.1); (case side5 => exact pt_ (ya_.ir_ HI0.out HO117.out Qh)); rintro e w6 ⟨rfl, hi, hb, hk⟩; refine ⟨_, rfl, ?_⟩; have n0_ := ba_.mk (Kd.rd_ (Kd.fk_ (ya_.apart (show ya_ w0 _ g s0_0 s0_1 from by repeat (first | (with_reducible first | exact HI0.out | apply ya_.alloc | apply ya_.drewN | apply ya_.drew | apply ya_.je_) | exact HI0.out)) (Ql HO117.out) Qh) hk (fun _ h => h.2)) (fun _ h => h.1)); have n1_ := ba_.mk (vb_.trans Qs hk (.inl rfl)); have n2_ := ba_.mk (hb); have n3_ := ba_.mk (hi); clear HO117; clear HK; clear HB; clear HI0; have HO117 := n0_; have HK := n1_; have HB := n2_; have HI0 := n3_; clear n0_ n1_ n2_ n3_; (try clear hb); (try clear hb2); (try clear hk); (try clear hi)))
 go_ret
 exact ⟨Qq, Qx, Qy, Qs⟩
def lb_.f (s0_0 : List Int) (s0_1 : Int) (a1 : Int) (a2 : Int) : Option (Int × Int) := if a2 > 0 then ((nd_.f s0_0 s0_1 a2).bind fun bt120 => (if bt120.1 = true then ((ud_.f s0_0 bt120.2).bind fun bt122 => (some (bt122.1, bt122.2))) else (some (a1, bt120.2)))) else (some (a1, s0_1))
set_option maxHeartbeats 8000000 in
set_option maxRecDepth 100000 in
theorem lb_.calls (g : Nat) (s0_0 : List Int) (s0_1 : Int) (a1 : Int) (a2 : Int) (r1 : Int) (r2 : Int) (w0 w : World) (hI : ya_ w0 w g s0_0 s0_1) (hB : Below w0.heap.size w0 w) (h : lb_.f s0_0 s0_1 a1 a2 = some (r1, r2)) :
  Calls Tryz.prog 50 #[.pointer (some ⟨g, 0, none⟩), .int .i64 a1, .int .i64 a2] w fun e w' => e = .returned (.int .i64 r1) ∧ ya_ w0 w' g s0_0 r2 ∧ Below w0.heap.size w0 w' ∧ vb_ w w' g none := by
 have HI0 := ba_.mk hI
 have HK := ba_.mk (vb_.refl w g none)
 have HL := ba_.mk hB.size
 clear hI
 have HW0 := ba_.mk hB.size
 have HB := ba_.mk hB
 clear hB
 have H : (if a2 > 0 then ((nd_.f s0_0 s0_1 a2).bind fun bt120 => (if bt120.1 = true then ((ud_.f s0_0 bt120.2).bind fun bt122 => (some (bt122.1, bt122.2))) else (some (a1, bt120.2)))) else (some (a1, s0_1))) = some (r1, r2) := h
 clear h
 by_cases c4 : a2 > 0
 rotate_left
 ·rw [if_neg c4] at H
  have c4b0 : decide (0 < a2) = false := decide_eq_false c4
  clear c4
  simp only [Option.some.injEq, Prod.mk.injEq] at H
  obtain ⟨rfl, rfl⟩ := H
  go_enter Tryz.func50, Tryz.ntmps50
  go_wp2
  go_ret
  exact ⟨Qq, Qx, Qy, Qs⟩
 rw [if_pos c4] at H
 have c4b0 : decide (0 < a2) = true := decide_eq_true c4
 clear c4
 obtain ⟨⟨t120, t121⟩, A5, H⟩ := Qk H
 try dsimp only at H
 by_cases c6 : t120 = true
 rotate_left
 ·replace c6 := Bool.eq_false_iff.mpr c6
  subst c6
  have H1 : (some (a1, t121)) = some (r1, r2) := by rw [if_neg (show ¬ (false = true) by decide)] at H; exact H
  clear H
  have H := H1
  clear H1
  simp only [Option.some.injEq, Prod.mk.injEq] at H
  obtain ⟨rfl, rfl⟩ := H
  go_enter Tryz.func50, Tryz.ntmps50
  go_wp2_with (first | (go_at_call 34; (with_reducible refine (nd_.calls g s0_0 s0_1 a2 false t121 w0 _ ?side1 ?side2 A5.out).mono ?_); (case side1 => exact Q7); (case side2 => exact Q8); rintro e w10 ⟨rfl, hi, hb, hk⟩; have n0_ := ba_.mk (vb_.trans Qs hk (.inl rfl)); have n1_ := ba_.mk (hb); have n2_ := ba_.mk (hi); clear HK; clear HB; clear HI0; have HK := n0_; have HB := n1_; have HI0 := n2_; clear n0_ n1_ n2_; (try clear hb); (try clear hb2); (try clear hk); (try clear hi)))
  go_ret
  exact ⟨Qq, Qx, Qy, Qs⟩
 subst c6
 have H1 : ((ud_.f s0_0 t121).bind fun bt122 => (some (bt122.1, bt122.2))) = some (r1, r2) := by rw [if_pos rfl] at H; exact H
 clear H
 have H := H1
 clear H1
 obtain ⟨⟨t122, t123⟩, A7, H⟩ := Qk H
 try dsimp only at H
 simp only [Option.some.injEq, Prod.mk.injEq] at H
 obtain ⟨rfl, rfl⟩ := H
 go_enter Tryz.func50, Tryz.ntmps50
 go_wp2_with (first | (go_at_call 34; (with_reducible refine (nd_.calls g s0_0 s0_1 a2 true t121 w0 _ ?side1 ?side2 A5.out).mono ?_); (case side1 => exact Q7); (case side2 => exact Q8); rintro e w8 ⟨rfl, hi, hb, hk⟩; have n0_ := ba_.mk (vb_.trans Qs hk (.inl rfl)); have n1_ := ba_.mk (hb); have n2_ := ba_.mk (hi); clear HK; clear HB; clear HI0; have HK := n0_; have HB := n1_; have HI0 := n2_; clear n0_ n1_ n2_; (try clear hb); (try clear hb2); (try clear hk); (try clear hi)) | ((with_reducible refine ia_ (f := 83) rfl ?_); refine gc_ (some 15) rfl rfl Tryz.func83 Qb rfl #[.pointer (some ⟨g, 0, none⟩)] rfl Qj ?_; (with_reducible refine (ud_.calls g s0_0 t121 t122 t123 w0 _ ?side1 ?side2 A7.out).mono ?_); (case side1 => exact Q7); (case side2 => exact Q8); rintro e w9 ⟨rfl, hi, hb, hk⟩; refine ⟨_, rfl, ?_⟩; have n0_ := ba_.mk (vb_.trans Qs hk (.inl rfl)); have n1_ := ba_.mk (hb); have n2_ := ba_.mk (hi); clear HK; clear HB; clear HI0; have HK := n0_; have HB := n1_; have HI0 := n2_; clear n0_ n1_ n2_; (try clear hb); (try clear hb2); (try clear hk); (try clear hi)))
 go_ret
 exact ⟨Qq, Qx, Qy, Qs⟩
def ce_.f (s0_0 : List Int) (s0_1 : Int) (a1 : Int) : Option (Int × Int × Int × Int × Int) := (wb_.f s0_0 s0_1 0 31).bind fun bt125 => ((lb_.f s0_0 bt125.2 bt125.1 a1).bind fun bt127 => ((zc_.f s0_0 bt127.2 (([0, 1, 31, 32, 1023, 1024, 5000, 9998, 9999] : List Int))).bind fun bt132 => ((lb_.f s0_0 bt132.2 bt132.1 a1).bind fun bt134 => ((wb_.f s0_0 bt134.2 0 31).bind fun bt136 => ((lb_.f s0_0 bt136.2 bt136.1 a1).bind fun bt138 => ((wb_.f s0_0 bt138.2 0 31).bind fun bt140 => ((lb_.f s0_0 bt140.2 bt140.1 a1).bind fun bt142 => (some (bt127.1, bt134.1, bt138.1, bt142.1, bt142.2)))))))))
set_option maxHeartbeats 8000000 in
set_option maxRecDepth 100000 in
theorem ce_.calls (g : Nat) (s0_0 : List Int) (s0_1 : Int) (a1 : Int) (r1 : Int) (r2 : Int) (r3 : Int) (r4 : Int) (r5 : Int) (w0 w : World) (hI : ya_ w0 w g s0_0 s0_1) (hB : Below w0.heap.size w0 w) (h : ce_.f s0_0 s0_1 a1 = some (r1, r2, r3, r4, r5)) :
  Calls Tryz.prog 18 #[.pointer (some ⟨g, 0, none⟩), .int .i64 a1] w fun e w' => e = .returned (.agg #[.int .i64 r1, .int .i64 r2, .int .i64 r3, .int .i64 r4]) ∧ ya_ w0 w' g s0_0 r5 ∧ Below w0.heap.size w0 w' ∧ vb_ w w' g none := by
 have hu38 := Tryz.underlying38
 have HI0 := ba_.mk hI
 have HK := ba_.mk (vb_.refl w g none)
 have HL := ba_.mk hB.size
 clear hI
 have HW0 := ba_.mk hB.size
 have HB := ba_.mk hB
 clear hB
 have H : ((wb_.f s0_0 s0_1 0 31).bind fun bt125 => ((lb_.f s0_0 bt125.2 bt125.1 a1).bind fun bt127 => ((zc_.f s0_0 bt127.2 (([0, 1, 31, 32, 1023, 1024, 5000, 9998, 9999] : List Int))).bind fun bt132 => ((lb_.f s0_0 bt132.2 bt132.1 a1).bind fun bt134 => ((wb_.f s0_0 bt134.2 0 31).bind fun bt136 => ((lb_.f s0_0 bt136.2 bt136.1 a1).bind fun bt138 => ((wb_.f s0_0 bt138.2 0 31).bind fun bt140 => ((lb_.f s0_0 bt140.2 bt140.1 a1).bind fun bt142 => (some (bt127.1, bt134.1, bt138.1, bt142.1, bt142.2)))))))))) = some (r1, r2, r3, r4, r5) := h
 clear h
 obtain ⟨⟨t125, t126⟩, A3, H⟩ := Qk H
 try dsimp only at H
 obtain ⟨⟨t127, t128⟩, A4, H⟩ := Qk H
 try dsimp only at H
 obtain ⟨y129, hy129⟩ : ∃ y_ : List Int, y_ = (([0, 1, 31, 32, 1023, 1024, 5000, 9998, 9999] : List Int)) := ⟨_, rfl⟩
 replace H : ((zc_.f s0_0 t128 y129).bind fun bt132 => ((lb_.f s0_0 bt132.2 bt132.1 a1).bind fun bt134 => ((wb_.f s0_0 bt134.2 0 31).bind fun bt136 => ((lb_.f s0_0 bt136.2 bt136.1 a1).bind fun bt138 => ((wb_.f s0_0 bt138.2 0 31).bind fun bt140 => ((lb_.f s0_0 bt140.2 bt140.1 a1).bind fun bt142 => (some (t127, bt134.1, bt138.1, bt142.1, bt142.2)))))))) = some (r1, r2, r3, r4, r5) := by first | (rw [hy129]; with_reducible exact H) | (have H2_ := (Option.bind_some _ _).symm.trans H; rw [hy129]; with_reducible exact H2_) | (have H2_ := (Option.bind_some _ _).symm.trans H; with_reducible exact H2_) | with_reducible exact H | (rw [hy129]; exact H) | exact H
 have Ny129 := ba_.mk hy129
 clear hy129
 obtain ⟨⟨t132, t133⟩, A5, H⟩ := Qk H
 try dsimp only at H
 obtain ⟨⟨t134, t135⟩, A6, H⟩ := Qk H
 try dsimp only at H
 obtain ⟨⟨t136, t137⟩, A7, H⟩ := Qk H
 try dsimp only at H
 obtain ⟨⟨t138, t139⟩, A8, H⟩ := Qk H
 try dsimp only at H
 obtain ⟨⟨t140, t141⟩, A9, H⟩ := Qk H
 try dsimp only at H
 obtain ⟨⟨t142, t143⟩, A10, H⟩ := Qk H
 try dsimp only at H
 simp only [Option.some.injEq, Prod.mk.injEq] at H
 obtain ⟨rfl, rfl, rfl, rfl, rfl⟩ := H
 go_enter Tryz.func18, Tryz.ntmps18
 go_wp2_with (first | ((with_reducible refine md_ (N := 4) rfl ?_); refine fe_ ?hg (N := 4) ?hd (cs := #[.int .i64 0, .int .i64 0, .int .i64 0, .int .i64 0]) (t := 38) ?hr ?_; (case hd => rfl); (case hg => rfl); (case hr => exact Qt); intro gb124 hg w11 hbox hb; have n0_ := ba_.mk (ya_.below Qx hb); have n1_ := ba_.mk (vb_.trans Qs (vb_.qi_ hb g none) (.inl rfl)); have n2_ := ba_.mk (wa_ Qy hb); have n3_ := ba_.mk (hbox); have n4_ := ba_.mk ((by rw [hg]; exact (pj_ (w := w) (g := g) (row := none) Qs) : w.heap.size ≤ gb124)); have n5_ := ba_.mk ((Nat.le_trans HW0.out (by rw [hg]; exact (pj_ (w := w) (g := g) (row := none) Qs) : w.heap.size ≤ gb124) : w0.heap.size ≤ gb124)); have n6_ := ba_.mk ((by rw [hg]; exact Nat.ne_of_lt (ya_.lt (show ya_ w0 _ g s0_0 s0_1 from by repeat (first | (with_reducible first | exact HI0.out | apply ya_.alloc | apply ya_.drewN | apply ya_.drew | apply ya_.je_) | exact HI0.out))) : g ≠ gb124)); have n7_ := ba_.mk ((by rw [hg]; exact Nat.ne_of_gt (ya_.lt (show ya_ w0 _ g s0_0 s0_1 from by repeat (first | (with_reducible first | exact HI0.out | apply ya_.alloc | apply ya_.drewN | apply ya_.drew | apply ya_.je_) | exact HI0.out))) : gb124 ≠ g)); clear HI0; clear HK; clear HB; have HI0 := n0_; have HK := n1_; have HB := n2_; have BK124 := n3_; have GW124 := n4_; have GE124 := n5_; have NB0_124 := n6_; have NB124_0 := n7_; clear n0_ n1_ n2_ n3_ n4_ n5_ n6_ n7_; clear hb hbox hg) | ((with_reducible refine ia_ (f := 31) rfl ?_); refine gc_ (some 7) rfl rfl Tryz.func31 Qb rfl #[.pointer (some ⟨g, 0, none⟩), .int .i64 0, .int .i64 31] rfl Qj ?_; (with_reducible refine (wb_.calls g s0_0 s0_1 0 31 t125 t126 w0 _ ?side1 ?side2 A3.out).mono ?_); (case side1 => exact Xq); (case side2 => exact Xr); rintro e w12 ⟨rfl, hi, hb, hk⟩; refine ⟨_, rfl, ?_⟩; have n0_ := ba_.mk (vb_.blk hk (g' := gb124) (o := .cells #[.int .i64 0, .int .i64 0, .int .i64 0, .int .i64 0] 38 (0, 0)) (Qr BK124.out) NB124_0.out Qo); have n1_ := ba_.mk (vb_.trans Xl hk (.inl rfl)); have n2_ := ba_.mk (hb); have n3_ := ba_.mk (hi); clear BK124; clear HK; clear HB; clear HI0; have BK124 := n0_; have HK := n1_; have HB := n2_; have HI0 := n3_; clear n0_ n1_ n2_ n3_; (try clear hb); (try clear hb2); (try clear hk); (try clear hi)) | ((with_reducible refine ia_ (f := 50) rfl ?_); refine gc_ (some 9) rfl rfl Tryz.func50 Qb rfl #[.pointer (some ⟨g, 0, none⟩), .int .i64 t125, .int .i64 a1] rfl Qj ?_; (with_reducible refine (lb_.calls g s0_0 t126 t125 a1 t127 t128 w0 _ ?side1 ?side2 A4.out).mono ?_); (case side1 => exact Xq); (case side2 => exact Xr); rintro e w13 ⟨rfl, hi, hb, hk⟩; refine ⟨_, rfl, ?_⟩; have n0_ := ba_.mk (vb_.blk hk (g' := gb124) (o := .cells #[.int .i64 0, .int .i64 0, .int .i64 0, .int .i64 0] 38 (0, 0)) (Qr BK124.out) NB124_0.out Qo); have n1_ := ba_.mk (vb_.trans Xl hk (.inl rfl)); have n2_ := ba_.mk (hb); have n3_ := ba_.mk (hi); clear BK124; clear HK; clear HB; clear HI0; have BK124 := n0_; have HK := n1_; have HB := n2_; have HI0 := n3_; clear n0_ n1_ n2_ n3_; (try clear hb); (try clear hb2); (try clear hk); (try clear hi)) | ((with_reducible refine md_ (N := 12) rfl ?_); refine Kd.sm_ (Kd.int .i64) _ 3 ?hg (N := 12) ?hd (xs := ([0, 1, 31, 32, 1023, 1024, 5000, 9998, 9999] : List Int)) (inner := [.int .i64 0, .int .i64 1, .int .i64 31, .int .i64 32, .int .i64 1023, .int .i64 1024, .int .i64 5000, .int .i64 9998, .int .i64 9999]) (ok := fun _ => True) (okp := fun _ => True) ?hr ?hp (fun _ hk => hk) trivial (Below.refl _ _) (Nat.le_refl _) Qo ?_; (case hd => rfl); (case hg => rfl); (case hr => exact Qt); (case hp => exact (Reps.one (show Kd.M (Kd.int .i64) _ _ _ 0 [.int .i64 0] from rfl) (Reps.one (show Kd.M (Kd.int .i64) _ _ _ 1 [.int .i64 1] from rfl) (Reps.one (show Kd.M (Kd.int .i64) _ _ _ 31 [.int .i64 31] from rfl) (Reps.one (show Kd.M (Kd.int .i64) _ _ _ 32 [.int .i64 32] from rfl) (Reps.one (show Kd.M (Kd.int .i64) _ _ _ 1023 [.int .i64 1023] from rfl) (Reps.one (show Kd.M (Kd.int .i64) _ _ _ 1024 [.int .i64 1024] from rfl) (Reps.one (show Kd.M (Kd.int .i64) _ _ _ 5000 [.int .i64 5000] from rfl) (Reps.one (show Kd.M (Kd.int .i64) _ _ _ 9998 [.int .i64 9998] from rfl) (Reps.one (show Kd.M (Kd.int .i64) _ _ _ 9999 [.int .i64 9999] from rfl) (Reps.none _ _))))))))))); intro v130 w14 ho15 hb hg_ hnew_; clear hg_ hnew_; (first | rw [← Ny129.out] at ho15 | (simp only [Int.reduceToNat] at ho15; rw [← Ny129.out] at ho15)); have n0_ := ba_.mk (Kd.td_ ho15 (pj_ (w := w) (g := g) (row := none) Xl)); have n1_ := ba_.mk (ya_.below (by repeat (first | (with_reducible first | exact HI0.out | apply ya_.alloc | apply ya_.drewN | apply ya_.drew | apply ya_.je_ | refine ya_.far ?_ NB0_124.out _) | exact HI0.out)) hb); have n2_ := ba_.mk (ed_ (g := gb124) (o := .cells #[.int .i64 0, .int .i64 0, .int .i64 0, .int .i64 0] 38 (0, 0)) (Qr BK124.out) hb); have n3_ := ba_.mk (vb_.trans Xl (vb_.qi_ hb g none) (.inl rfl)); have n4_ := ba_.mk (wa_ (by repeat (first | (with_reducible first | exact HB.out | apply da_ | apply aa_ | apply ca_ | refine sa_ ?_ (ya_.ge HI0.out) | refine sa_ ?_ GE124.out) | exact HB.out)) hb); clear HI0; clear BK124; clear HK; clear HB; have HO131 := n0_; have HI0 := n1_; have BK124 := n2_; have HK := n3_; have HB := n4_; clear n0_ n1_ n2_ n3_ n4_; clear hb ho15; obtain ⟨Ao16, co16, eo16⟩ := Kd.pd_ HO131.out; subst eo16) | ((with_reducible refine ia_ (f := 35) rfl ?_); refine gc_ (some 13) rfl rfl Tryz.func35 Qb rfl #[.pointer (some ⟨g, 0, none⟩), .slice Ao16 y129.length co16] rfl Qj ?_; (with_reducible refine (zc_.calls g s0_0 t128 _ _ y129 t132 t133 w0 _ ?side1 ?side2 ?side3 ?side4 ?side5 A5.out).mono ?_); (case side1 => exact Xq); (case side2 => exact Xr); (case side3 => repeat (first | exact (Kd.cc_ HO131.out).2.2 | (with_reducible refine Kd.gd_ ?_ _) | (with_reducible refine Kd.hd_ ?_ _) | (with_reducible refine Kd.yd_ ?_))); (case side4 => exact (Kd.cc_ HO131.out).2.1); (case side5 => exact pt_ (ya_.ir_ HI0.out HO131.out Qh)); rintro e w17 ⟨rfl, hi, hb, hk⟩; refine ⟨_, rfl, ?_⟩; have n0_ := ba_.mk (vb_.blk hk (g' := gb124) (o := .cells #[.int .i64 0, .int .i64 0, .int .i64 0, .int .i64 0] 38 (0, 0)) (Qr BK124.out) NB124_0.out Qo); have n1_ := ba_.mk (Kd.rd_ (Kd.fk_ (ya_.apart (show ya_ w0 _ g s0_0 t128 from by repeat (first | (with_reducible first | exact HI0.out | apply ya_.alloc | apply ya_.drewN | apply ya_.drew | apply ya_.je_ | refine ya_.far ?_ NB0_124.out _) | exact HI0.out)) (Ql HO131.out) Qh) hk (fun _ h => h.2)) (fun _ h => h.1)); have n2_ := ba_.mk (vb_.trans Xl hk (.inl rfl)); have n3_ := ba_.mk (hb); have n4_ := ba_.mk (hi); clear BK124; clear HO131; clear HK; clear HB; clear HI0; have BK124 := n0_; have HO131 := n1_; have HK := n2_; have HB := n3_; have HI0 := n4_; clear n0_ n1_ n2_ n3_ n4_; (try clear hb); (try clear hb2); (try clear hk); (try clear hi)) | ((with_reducible refine ia_ (f := 50) rfl ?_); refine gc_ (some 15) rfl rfl Tryz.func50 Qb rfl #[.pointer (some ⟨g, 0, none⟩), .int .i64 t132, .int .i64 a1] rfl Qj ?_; (with_reducible refine (lb_.calls g s0_0 t133 t132 a1 t134 t135 w0 _ ?side1 ?side2 A6.out).mono ?_); (case side1 => exact Xq); (case side2 => exact Xr); rintro e w18 ⟨rfl, hi, hb, hk⟩; refine ⟨_, rfl, ?_⟩; have n0_ := ba_.mk (vb_.blk hk (g' := gb124) (o := .cells #[.int .i64 0, .int .i64 0, .int .i64 0, .int .i64 0] 38 (0, 0)) (Qr BK124.out) NB124_0.out Qo); have n1_ := ba_.mk (Kd.rd_ (Kd.fk_ (ya_.apart (show ya_ w0 _ g s0_0 t133 from by repeat (first | (with_reducible first | exact HI0.out | apply ya_.alloc | apply ya_.drewN | apply ya_.drew | apply ya_.je_ | refine ya_.far ?_ NB0_124.out _) | exact HI0.out)) (Ql HO131.out) Qh) hk (fun _ h => h.2)) (fun _ h => h.1)); have n2_ := ba_.mk (vb_.trans Xl hk (.inl rfl)); have n3_ := ba_.mk (hb); have n4_ := ba_.mk (hi); clear BK124; clear HO131; clear HK; clear HB; clear HI0; have BK124 := n0_; have HO131 := n1_; have HK := n2_; have HB := n3_; have HI0 := n4_; clear n0_ n1_ n2_ n3_ n4_; (try clear hb); (try clear hb2); (try clear hk); (try clear hi)) | ((with_reducible refine ia_ (f := 31) rfl ?_); refine gc_ (some 18) rfl rfl Tryz.func31 Qb rfl #[.pointer (some ⟨g, 0, none⟩), .int .i64 0, .int .i64 31] rfl Qj ?_; (with_reducible refine (wb_.calls g s0_0 t135 0 31 t136 t137 w0 _ ?side1 ?side2 A7.out).mono ?_); (case side1 => exact Xq); (case side2 => exact Xr); rintro e w19 ⟨rfl, hi, hb, hk⟩; refine ⟨_, rfl, ?_⟩; have n0_ := ba_.mk (vb_.blk hk (g' := gb124) (o := .cells #[.int .i64 0, .int .i64 0, .int .i64 0, .int .i64 0] 38 (0, 0)) (Qr BK124.out) NB124_0.out Qo); have n1_ := ba_.mk (Kd.rd_ (Kd.fk_ (ya_.apart (show ya_ w0 _ g s0_0 t135 from by repeat (first | (with_reducible first | exact HI0.out | apply ya_.alloc | apply ya_.drewN | apply ya_.drew | apply ya_.je_ | refine ya_.far ?_ NB0_124.out _) | exact HI0.out)) (Ql HO131.out) Qh) hk (fun _ h => h.2)) (fun _ h => h.1)); have n2_ := ba_.mk (vb_.trans Xl hk (.inl rfl)); have n3_ := ba_.mk (hb); have n4_ := ba_.mk (hi); clear BK124; clear HO131; clear HK; clear HB; clear HI0; have BK124 := n0_; have HO131 := n1_; have HK := n2_; have HB := n3_; have HI0 := n4_; clear n0_ n1_ n2_ n3_ n4_; (try clear hb); (try clear hb2); (try clear hk); (try clear hi)) | ((with_reducible refine ia_ (f := 50) rfl ?_); refine gc_ (some 20) rfl rfl Tryz.func50 Qb rfl #[.pointer (some ⟨g, 0, none⟩), .int .i64 t136, .int .i64 a1] rfl Qj ?_; (with_reducible refine (lb_.calls g s0_0 t137 t136 a1 t138 t139 w0 _ ?side1 ?side2 A8.out).mono ?_); (case side1 => exact Xq); (case side2 => exact Xr); rintro e w20 ⟨rfl, hi, hb, hk⟩; refine ⟨_, rfl, ?_⟩; have n0_ := ba_.mk (vb_.blk hk (g' := gb124) (o := .cells #[.int .i64 0, .int .i64 0, .int .i64 0, .int .i64 0] 38 (0, 0)) (Qr BK124.out) NB124_0.out Qo); have n1_ := ba_.mk (Kd.rd_ (Kd.fk_ (ya_.apart (show ya_ w0 _ g s0_0 t137 from by repeat (first | (with_reducible first | exact HI0.out | apply ya_.alloc | apply ya_.drewN | apply ya_.drew | apply ya_.je_ | refine ya_.far ?_ NB0_124.out _) | exact HI0.out)) (Ql HO131.out) Qh) hk (fun _ h => h.2)) (fun _ h => h.1)); have n2_ := ba_.mk (vb_.trans Xl hk (.inl rfl)); have n3_ := ba_.mk (hb); have n4_ := ba_.mk (hi); clear BK124; clear HO131; clear HK; clear HB; clear HI0; have BK124 := n0_; have HO131 := n1_; have HK := n2_; have HB := n3_; have HI0 := n4_; clear n0_ n1_ n2_ n3_ n4_; (try clear hb); (try clear hb2); (try clear hk); (try clear hi)) | ((with_reducible refine ia_ (f := 31) rfl ?_); refine gc_ (some 23) rfl rfl Tryz.func31 Qb rfl #[.pointer (some ⟨g, 0, none⟩), .int .i64 0, .int .i64 31] rfl Qj ?_; (with_reducible refine (wb_.calls g s0_0 t139 0 31 t140 t141 w0 _ ?side1 ?side2 A9.out).mono ?_); (case side1 => exact Xq); (case side2 => exact Xr); rintro e w21 ⟨rfl, hi, hb, hk⟩; refine ⟨_, rfl, ?_⟩; have n0_ := ba_.mk (vb_.blk hk (g' := gb124) (o := .cells #[.int .i64 0, .int .i64 0, .int .i64 0, .int .i64 0] 38 (0, 0)) (Qr BK124.out) NB124_0.out Qo); have n1_ := ba_.mk (Kd.rd_ (Kd.fk_ (ya_.apart (show ya_ w0 _ g s0_0 t139 from by repeat (first | (with_reducible first | exact HI0.out | apply ya_.alloc | apply ya_.drewN | apply ya_.drew | apply ya_.je_ | refine ya_.far ?_ NB0_124.out _) | exact HI0.out)) (Ql HO131.out) Qh) hk (fun _ h => h.2)) (fun _ h => h.1)); have n2_ := ba_.mk (vb_.trans Xl hk (.inl rfl)); have n3_ := ba_.mk (hb); have n4_ := ba_.mk (hi); clear BK124; clear HO131; clear HK; clear HB; clear HI0; have BK124 := n0_; have HO131 := n1_; have HK := n2_; have HB := n3_; have HI0 := n4_; clear n0_ n1_ n2_ n3_ n4_; (try clear hb); (try clear hb2); (try clear hk); (try clear hi)) | ((with_reducible refine ia_ (f := 50) rfl ?_); refine gc_ (some 25) rfl rfl Tryz.func50 Qb rfl #[.pointer (some ⟨g, 0, none⟩), .int .i64 t140, .int .i64 a1] rfl Qj ?_; (with_reducible refine (lb_.calls g s0_0 t141 t140 a1 t142 t143 w0 _ ?side1 ?side2 A10.out).mono ?_); (case side1 => exact Xq); (case side2 => exact Xr); rintro e w22 ⟨rfl, hi, hb, hk⟩; refine ⟨_, rfl, ?_⟩; have n0_ := ba_.mk (vb_.blk hk (g' := gb124) (o := .cells #[.int .i64 0, .int .i64 0, .int .i64 0, .int .i64 0] 38 (0, 0)) (Qr BK124.out) NB124_0.out Qo); have n1_ := ba_.mk (Kd.rd_ (Kd.fk_ (ya_.apart (show ya_ w0 _ g s0_0 t141 from by repeat (first | (with_reducible first | exact HI0.out | apply ya_.alloc | apply ya_.drewN | apply ya_.drew | apply ya_.je_ | refine ya_.far ?_ NB0_124.out _) | exact HI0.out)) (Ql HO131.out) Qh) hk (fun _ h => h.2)) (fun _ h => h.1)); have n2_ := ba_.mk (vb_.trans Xl hk (.inl rfl)); have n3_ := ba_.mk (hb); have n4_ := ba_.mk (hi); clear BK124; clear HO131; clear HK; clear HB; clear HI0; have BK124 := n0_; have HO131 := n1_; have HK := n2_; have HB := n3_; have HI0 := n4_; clear n0_ n1_ n2_ n3_ n4_; (try clear hb); (try clear hb2); (try clear hk); (try clear hi); have hnb23 := NB124_0.out; have hnc23 := NB0_124.out; have hcz24_0 : w22.cell? ⟨gb124, 0, none⟩ = some (.int .i64 0) := (mb_ BK124.out 0).trans rfl; have hcz24_1 : w22.cell? ⟨gb124, 1, none⟩ = some (.int .i64 0) := (mb_ BK124.out 1).trans rfl; have hcz24_2 : w22.cell? ⟨gb124, 2, none⟩ = some (.int .i64 0) := (mb_ BK124.out 2).trans rfl; have hcz24_3 : w22.cell? ⟨gb124, 3, none⟩ = some (.int .i64 0) := (mb_ BK124.out 3).trans rfl; have hfz24_0 := qa_ BK124.out 0; have hfz24_1 := qa_ BK124.out 1; have hfz24_2 := qa_ BK124.out 2; have hfz24_3 := qa_ BK124.out 3))
 refine bodyPost_ret (results_cell_row rfl _ _ gb124 38 #[.int .i64 t127, .int .i64 t134, .int .i64 t138, .int .i64 t142] (0, 0) _ rfl (by (with_reducible repeat (first | refine db_ ?_ _ | refine pb_ ?_ | refine cb_ ?_ _)); refine od_ (cs := #[.int .i64 t127, .int .i64 t134, .int .i64 t138, .int .i64 0]) ?_ 3 _ rfl; (with_reducible repeat (first | refine db_ ?_ _ | refine pb_ ?_ | refine cb_ ?_ _)); refine od_ (cs := #[.int .i64 t127, .int .i64 t134, .int .i64 0, .int .i64 0]) ?_ 2 _ rfl; (with_reducible repeat (first | refine db_ ?_ _ | refine pb_ ?_ | refine cb_ ?_ _)); refine od_ (cs := #[.int .i64 t127, .int .i64 0, .int .i64 0, .int .i64 0]) ?_ 1 _ rfl; (with_reducible repeat (first | refine db_ ?_ _ | refine pb_ ?_ | refine cb_ ?_ _)); refine od_ (cs := #[.int .i64 0, .int .i64 0, .int .i64 0, .int .i64 0]) ?_ 0 _ rfl; (with_reducible repeat (first | refine db_ ?_ _ | refine pb_ ?_ | refine cb_ ?_ _)); exact BK124.out) Tryz.underlying38 rfl Qb) rfl ?_
 exact ⟨Qq, by repeat (first | (with_reducible first | exact HI0.out | apply ya_.alloc | apply ya_.drewN | apply ya_.drew | apply ya_.je_ | refine ya_.far ?_ NB0_124.out _) | exact HI0.out), by repeat (first | (with_reducible first | exact HB.out | apply da_ | apply aa_ | apply ca_ | refine sa_ ?_ (ya_.ge HI0.out) | refine sa_ ?_ GE124.out) | exact HB.out), Xl⟩
def sb_.f (a0 : Int) (a1 : Int) : Option (Bool) := if a0 ≥ 0 then (some (decide (a0 ≤ a1))) else (some false)
set_option maxHeartbeats 8000000 in
set_option maxRecDepth 100000 in
theorem sb_.calls (a0 : Int) (a1 : Int) (r : Bool) (w : World) (h : sb_.f a0 a1 = some r) :
  Calls Tryz.prog 91 #[.int .i64 a0, .int .i64 a1] w fun e w' => e = .returned (.bool r) ∧ ja_ w w' := by
 have H : (if a0 ≥ 0 then (some (decide (a0 ≤ a1))) else (some false)) = some r := h
 clear h
 by_cases c3 : a0 ≥ 0
 ·rw [if_pos c3] at H
  have c3b0 : decide (0 ≤ a0) = true := decide_eq_true c3
  clear c3
  obtain rfl := Option.some.inj H
  go_enter Tryz.func91, Tryz.ntmps91
  go_wp2
  go_ret
  exact ⟨Qi, Qp⟩
 rw [if_neg c3] at H
 have c3b0 : decide (0 ≤ a0) = false := decide_eq_false c3
 clear c3
 obtain rfl := Option.some.inj H
 go_enter Tryz.func91, Tryz.ntmps91
 go_wp2
 go_ret
 exact ⟨Qi, Qp⟩
def dd_.f (a0_0 : Int) (a0_1 : Int) (a0_2 : Int) (a0_3 : Int) : Option (Bool) := (sb_.f a0_0 31).bind fun t145 => (if t145 = true then ((sb_.f a0_2 31).bind fun t146 => (if t146 = true then ((sb_.f a0_3 31).bind fun t147 => (if t147 = true then ((sb_.f a0_1 9999).bind fun t148 => (some t148)) else (some false))) else (some false))) else (some false))
set_option maxHeartbeats 8000000 in
set_option maxRecDepth 100000 in
theorem dd_.calls (a0_0 : Int) (a0_1 : Int) (a0_2 : Int) (a0_3 : Int) (r : Bool) (w : World) (h : dd_.f a0_0 a0_1 a0_2 a0_3 = some r) :
  Calls Tryz.prog 60 #[.agg #[.int .i64 a0_0, .int .i64 a0_1, .int .i64 a0_2, .int .i64 a0_3]] w fun e w' => e = .returned (.bool r) ∧ Below w.heap.size w w' := by
 have hu38 := Tryz.underlying38
 have HB := ba_.mk (Below.refl w.heap.size w)
 have H : ((sb_.f a0_0 31).bind fun t145 => (if t145 = true then ((sb_.f a0_2 31).bind fun t146 => (if t146 = true then ((sb_.f a0_3 31).bind fun t147 => (if t147 = true then ((sb_.f a0_1 9999).bind fun t148 => (some t148)) else (some false))) else (some false))) else (some false))) = some r := h
 clear h
 obtain ⟨t145, A2, H⟩ := Qk H
 try dsimp only at H
 by_cases c3 : t145 = true
 rotate_left
 ·replace c3 := Bool.eq_false_iff.mpr c3
  subst c3
  have H1 : (some false) = some r := by rw [if_neg (show ¬ (false = true) by decide)] at H; exact H
  clear H
  have H := H1
  clear H1
  obtain rfl := Option.some.inj H
  go_enter Tryz.func60, Tryz.ntmps60
  go_wp2_with (first | ((with_reducible refine md_ (N := 1) rfl ?_); refine fe_ ?hg (N := 1) ?hd (cs := #[.int .i64 a0_0, .int .i64 a0_1, .int .i64 a0_2, .int .i64 a0_3]) (t := 38) ?hr ?_; (case hd => rfl); (case hg => rfl); (case hr => exact Qt); intro gb144 hg w15 hbox hb; have n0_ := ba_.mk (wa_ Qe hb); have n1_ := ba_.mk (hbox); have n2_ := ba_.mk ((by rw [hg]; exact (za_ Qe) : w.heap.size ≤ gb144)); have n3_ := ba_.mk ((by rw [hg]; exact (za_ Qe) : w.heap.size ≤ gb144)); clear HB; have HB := n0_; have BK144 := n1_; have GW144 := n2_; have GE144 := n3_; clear n0_ n1_ n2_ n3_; clear hb hbox hg; have hcz16_0 : w15.cell? ⟨gb144, 0, none⟩ = some (.int .i64 a0_0) := (mb_ BK144.out 0).trans rfl; have hcz16_1 : w15.cell? ⟨gb144, 1, none⟩ = some (.int .i64 a0_1) := (mb_ BK144.out 1).trans rfl; have hcz16_2 : w15.cell? ⟨gb144, 2, none⟩ = some (.int .i64 a0_2) := (mb_ BK144.out 2).trans rfl; have hcz16_3 : w15.cell? ⟨gb144, 3, none⟩ = some (.int .i64 a0_3) := (mb_ BK144.out 3).trans rfl; have hfz16_0 := qa_ BK144.out 0; have hfz16_1 := qa_ BK144.out 1; have hfz16_2 := qa_ BK144.out 2; have hfz16_3 := qa_ BK144.out 3) | ((with_reducible refine ia_ (f := 91) rfl ?_); refine gc_ (some 5) rfl rfl Tryz.func91 Qb rfl #[.int .i64 a0_0, .int .i64 31] rfl Qj ?_; (with_reducible refine (sb_.calls a0_0 31 false _ A2.out).mono ?_); rintro e w' ⟨rfl, ⟨nd, rfl⟩⟩; refine ⟨_, rfl, ?_⟩))
  go_ret
  exact ⟨Qq, Ym⟩
 subst c3
 have H1 : ((sb_.f a0_2 31).bind fun t146 => (if t146 = true then ((sb_.f a0_3 31).bind fun t147 => (if t147 = true then ((sb_.f a0_1 9999).bind fun t148 => (some t148)) else (some false))) else (some false))) = some r := by rw [if_pos rfl] at H; exact H
 clear H
 have H := H1
 clear H1
 obtain ⟨t146, A4, H⟩ := Qk H
 try dsimp only at H
 by_cases c5 : t146 = true
 rotate_left
 ·replace c5 := Bool.eq_false_iff.mpr c5
  subst c5
  have H1 : (some false) = some r := by rw [if_neg (show ¬ (false = true) by decide)] at H; exact H
  clear H
  have H := H1
  clear H1
  obtain rfl := Option.some.inj H
  go_enter Tryz.func60, Tryz.ntmps60
  go_wp2_with (first | ((with_reducible refine md_ (N := 1) rfl ?_); refine fe_ ?hg (N := 1) ?hd (cs := #[.int .i64 a0_0, .int .i64 a0_1, .int .i64 a0_2, .int .i64 a0_3]) (t := 38) ?hr ?_; (case hd => rfl); (case hg => rfl); (case hr => exact Qt); intro gb144 hg w13 hbox hb; have n0_ := ba_.mk (wa_ Qe hb); have n1_ := ba_.mk (hbox); have n2_ := ba_.mk ((by rw [hg]; exact (za_ Qe) : w.heap.size ≤ gb144)); have n3_ := ba_.mk ((by rw [hg]; exact (za_ Qe) : w.heap.size ≤ gb144)); clear HB; have HB := n0_; have BK144 := n1_; have GW144 := n2_; have GE144 := n3_; clear n0_ n1_ n2_ n3_; clear hb hbox hg; have hcz14_0 : w13.cell? ⟨gb144, 0, none⟩ = some (.int .i64 a0_0) := (mb_ BK144.out 0).trans rfl; have hcz14_1 : w13.cell? ⟨gb144, 1, none⟩ = some (.int .i64 a0_1) := (mb_ BK144.out 1).trans rfl; have hcz14_2 : w13.cell? ⟨gb144, 2, none⟩ = some (.int .i64 a0_2) := (mb_ BK144.out 2).trans rfl; have hcz14_3 : w13.cell? ⟨gb144, 3, none⟩ = some (.int .i64 a0_3) := (mb_ BK144.out 3).trans rfl; have hfz14_0 := qa_ BK144.out 0; have hfz14_1 := qa_ BK144.out 1; have hfz14_2 := qa_ BK144.out 2; have hfz14_3 := qa_ BK144.out 3) | ((with_reducible refine ia_ (f := 91) rfl ?_); refine gc_ (some 5) rfl rfl Tryz.func91 Qb rfl #[.int .i64 a0_0, .int .i64 31] rfl Qj ?_; (with_reducible refine (sb_.calls a0_0 31 true _ A2.out).mono ?_); rintro e w' ⟨rfl, ⟨nd, rfl⟩⟩; refine ⟨_, rfl, ?_⟩) | (go_at_call 91; (with_reducible refine (sb_.calls a0_2 31 false _ A4.out).mono ?_); rintro e w' ⟨rfl, ⟨nd, rfl⟩⟩))
  go_ret
  exact ⟨Qq, Ym⟩
 subst c5
 have H1 : ((sb_.f a0_3 31).bind fun t147 => (if t147 = true then ((sb_.f a0_1 9999).bind fun t148 => (some t148)) else (some false))) = some r := by rw [if_pos rfl] at H; exact H
 clear H
 have H := H1
 clear H1
 obtain ⟨t147, A6, H⟩ := Qk H
 try dsimp only at H
 by_cases c7 : t147 = true
 rotate_left
 ·replace c7 := Bool.eq_false_iff.mpr c7
  subst c7
  have H1 : (some false) = some r := by rw [if_neg (show ¬ (false = true) by decide)] at H; exact H
  clear H
  have H := H1
  clear H1
  obtain rfl := Option.some.inj H
  go_enter Tryz.func60, Tryz.ntmps60
  go_wp2_with (first | ((with_reducible refine md_ (N := 1) rfl ?_); refine fe_ ?hg (N := 1) ?hd (cs := #[.int .i64 a0_0, .int .i64 a0_1, .int .i64 a0_2, .int .i64 a0_3]) (t := 38) ?hr ?_; (case hd => rfl); (case hg => rfl); (case hr => exact Qt); intro gb144 hg w11 hbox hb; have n0_ := ba_.mk (wa_ Qe hb); have n1_ := ba_.mk (hbox); have n2_ := ba_.mk ((by rw [hg]; exact (za_ Qe) : w.heap.size ≤ gb144)); have n3_ := ba_.mk ((by rw [hg]; exact (za_ Qe) : w.heap.size ≤ gb144)); clear HB; have HB := n0_; have BK144 := n1_; have GW144 := n2_; have GE144 := n3_; clear n0_ n1_ n2_ n3_; clear hb hbox hg; have hcz12_0 : w11.cell? ⟨gb144, 0, none⟩ = some (.int .i64 a0_0) := (mb_ BK144.out 0).trans rfl; have hcz12_1 : w11.cell? ⟨gb144, 1, none⟩ = some (.int .i64 a0_1) := (mb_ BK144.out 1).trans rfl; have hcz12_2 : w11.cell? ⟨gb144, 2, none⟩ = some (.int .i64 a0_2) := (mb_ BK144.out 2).trans rfl; have hcz12_3 : w11.cell? ⟨gb144, 3, none⟩ = some (.int .i64 a0_3) := (mb_ BK144.out 3).trans rfl; have hfz12_0 := qa_ BK144.out 0; have hfz12_1 := qa_ BK144.out 1; have hfz12_2 := qa_ BK144.out 2; have hfz12_3 := qa_ BK144.out 3) | ((with_reducible refine ia_ (f := 91) rfl ?_); refine gc_ (some 5) rfl rfl Tryz.func91 Qb rfl #[.int .i64 a0_0, .int .i64 31] rfl Qj ?_; (with_reducible refine (sb_.calls a0_0 31 true _ A2.out).mono ?_); rintro e w' ⟨rfl, ⟨nd, rfl⟩⟩; refine ⟨_, rfl, ?_⟩) | (go_at_call 91; (with_reducible refine (sb_.calls a0_2 31 true _ A4.out).mono ?_); rintro e w' ⟨rfl, ⟨nd, rfl⟩⟩) | (go_at_call 91; (with_reducible refine (sb_.calls a0_3 31 false _ A6.out).mono ?_); rintro e w' ⟨rfl, ⟨nd, rfl⟩⟩))
  go_ret
  exact ⟨Qq, Ym⟩
 subst c7
 have H1 : ((sb_.f a0_1 9999).bind fun t148 => (some t148)) = some r := by rw [if_pos rfl] at H; exact H
 clear H
 have H := H1
 clear H1
 obtain ⟨t148, A8, H⟩ := Qk H
 try dsimp only at H
 obtain rfl := Option.some.inj H
 go_enter Tryz.func60, Tryz.ntmps60
 go_wp2_with (first | ((with_reducible refine md_ (N := 1) rfl ?_); refine fe_ ?hg (N := 1) ?hd (cs := #[.int .i64 a0_0, .int .i64 a0_1, .int .i64 a0_2, .int .i64 a0_3]) (t := 38) ?hr ?_; (case hd => rfl); (case hg => rfl); (case hr => exact Qt); intro gb144 hg w9 hbox hb; have n0_ := ba_.mk (wa_ Qe hb); have n1_ := ba_.mk (hbox); have n2_ := ba_.mk ((by rw [hg]; exact (za_ Qe) : w.heap.size ≤ gb144)); have n3_ := ba_.mk ((by rw [hg]; exact (za_ Qe) : w.heap.size ≤ gb144)); clear HB; have HB := n0_; have BK144 := n1_; have GW144 := n2_; have GE144 := n3_; clear n0_ n1_ n2_ n3_; clear hb hbox hg; have hcz10_0 : w9.cell? ⟨gb144, 0, none⟩ = some (.int .i64 a0_0) := (mb_ BK144.out 0).trans rfl; have hcz10_1 : w9.cell? ⟨gb144, 1, none⟩ = some (.int .i64 a0_1) := (mb_ BK144.out 1).trans rfl; have hcz10_2 : w9.cell? ⟨gb144, 2, none⟩ = some (.int .i64 a0_2) := (mb_ BK144.out 2).trans rfl; have hcz10_3 : w9.cell? ⟨gb144, 3, none⟩ = some (.int .i64 a0_3) := (mb_ BK144.out 3).trans rfl; have hfz10_0 := qa_ BK144.out 0; have hfz10_1 := qa_ BK144.out 1; have hfz10_2 := qa_ BK144.out 2; have hfz10_3 := qa_ BK144.out 3) | ((with_reducible refine ia_ (f := 91) rfl ?_); refine gc_ (some 5) rfl rfl Tryz.func91 Qb rfl #[.int .i64 a0_0, .int .i64 31] rfl Qj ?_; (with_reducible refine (sb_.calls a0_0 31 true _ A2.out).mono ?_); rintro e w' ⟨rfl, ⟨nd, rfl⟩⟩; refine ⟨_, rfl, ?_⟩) | (go_at_call 91; (with_reducible refine (sb_.calls a0_2 31 true _ A4.out).mono ?_); rintro e w' ⟨rfl, ⟨nd, rfl⟩⟩) | (go_at_call 91; (with_reducible refine (sb_.calls a0_3 31 true _ A6.out).mono ?_); rintro e w' ⟨rfl, ⟨nd, rfl⟩⟩) | (go_at_call 91; (with_reducible refine (sb_.calls a0_1 9999 t148 _ A8.out).mono ?_); rintro e w' ⟨rfl, ⟨nd, rfl⟩⟩))
 go_ret
 exact ⟨Qq, Ym⟩
def be_.f (a0_0 : Int) (a0_1 : Int) (a0_2 : Int) (a0_3 : Int) : Option (List Int × Int) := (dd_.f a0_0 a0_1 a0_2 a0_3).bind fun t150 => (if t150 = true then (some ((([a0_0, wrap64 (Int.tdiv a0_1 1024), Int.tmod (wrap64 (Int.tdiv a0_1 32)) 32, Int.tmod a0_1 32, a0_2, a0_3] : List Int)), 0)) else (some (([] : List Int), 2)))
set_option maxHeartbeats 8000000 in
set_option maxRecDepth 100000 in
theorem be_.calls (a0_0 : Int) (a0_1 : Int) (a0_2 : Int) (a0_3 : Int) (r1 : List Int) (r2 : Int) (w : World) (h : be_.f a0_0 a0_1 a0_2 a0_3 = some (r1, r2)) :
  Calls Tryz.prog 51 #[.agg #[.int .i64 a0_0, .int .i64 a0_1, .int .i64 a0_2, .int .i64 a0_3]] w fun e w' => ∃ v0_ : Value, e = .returned (.tuple #[v0_, .int .i64 r2]) ∧ Kd.R (Kd.int .i64) 3 w' w.heap.size (fun _ => True) v0_ r1 ∧ Below w.heap.size w w' := by
 have hu38 := Tryz.underlying38
 have HB := ba_.mk (Below.refl w.heap.size w)
 have H : ((dd_.f a0_0 a0_1 a0_2 a0_3).bind fun t150 => (if t150 = true then (some ((([a0_0, wrap64 (Int.tdiv a0_1 1024), Int.tmod (wrap64 (Int.tdiv a0_1 32)) 32, Int.tmod a0_1 32, a0_2, a0_3] : List Int)), 0)) else (some (([] : List Int), 2)))) = some (r1, r2) := h
 clear h
 obtain ⟨t150, A2, H⟩ := Qk H
 try dsimp only at H
 by_cases c3 : t150 = true
 rotate_left
 ·replace c3 := Bool.eq_false_iff.mpr c3
  subst c3
  have H1 : (some (([] : List Int), 2)) = some (r1, r2) := by rw [if_neg (show ¬ (false = true) by decide)] at H; exact H
  clear H
  have H := H1
  clear H1
  simp only [Option.some.injEq, Prod.mk.injEq] at H
  obtain ⟨rfl, rfl⟩ := H
  go_enter Tryz.func51, Tryz.ntmps51
  go_wp2_with (first | ((with_reducible refine md_ (N := 1) rfl ?_); refine fe_ ?hg (N := 1) ?hd (cs := #[.int .i64 a0_0, .int .i64 a0_1, .int .i64 a0_2, .int .i64 a0_3]) (t := 38) ?hr ?_; (case hd => rfl); (case hg => rfl); (case hr => exact Qt); intro gb149 hg w10 hbox hb; have n0_ := ba_.mk (wa_ Qe hb); have n1_ := ba_.mk (hbox); have n2_ := ba_.mk ((by rw [hg]; exact (za_ Qe) : w.heap.size ≤ gb149)); have n3_ := ba_.mk ((by rw [hg]; exact (za_ Qe) : w.heap.size ≤ gb149)); clear HB; have HB := n0_; have BK149 := n1_; have GW149 := n2_; have GE149 := n3_; clear n0_ n1_ n2_ n3_; clear hb hbox hg; have hcz11_0 : w10.cell? ⟨gb149, 0, none⟩ = some (.int .i64 a0_0) := (mb_ BK149.out 0).trans rfl; have hcz11_1 : w10.cell? ⟨gb149, 1, none⟩ = some (.int .i64 a0_1) := (mb_ BK149.out 1).trans rfl; have hcz11_2 : w10.cell? ⟨gb149, 2, none⟩ = some (.int .i64 a0_2) := (mb_ BK149.out 2).trans rfl; have hcz11_3 : w10.cell? ⟨gb149, 3, none⟩ = some (.int .i64 a0_3) := (mb_ BK149.out 3).trans rfl; have hfz11_0 := qa_ BK149.out 0; have hfz11_1 := qa_ BK149.out 1; have hfz11_2 := qa_ BK149.out 2; have hfz11_3 := qa_ BK149.out 3) | ((with_reducible refine ia_ (f := 60) rfl ?_); refine gc_ (some 5) rfl rfl Tryz.func60 Qb rfl #[.agg #[.int .i64 a0_0, .int .i64 a0_1, .int .i64 a0_2, .int .i64 a0_3]] rfl Qj ?_; (with_reducible refine (dd_.calls a0_0 a0_1 a0_2 a0_3 false _ A2.out).mono ?_); rintro e w12 ⟨rfl, hb⟩; refine ⟨_, rfl, ?_⟩; have n0_ := ba_.mk (ed_ (g := gb149) (o := .cells #[.int .i64 a0_0, .int .i64 a0_1, .int .i64 a0_2, .int .i64 a0_3] 38 (0, 0)) (Qr BK149.out) hb); have n1_ := ba_.mk (wa_ X3 hb); clear BK149; clear HB; have BK149 := n0_; have HB := n1_; clear n0_ n1_; (try clear hb); (try clear hb2); (try clear hk); (try clear hi)))
  go_ret2
  exact ⟨_, Qq, Q5, X3⟩
 subst c3
 have H1 : (some ((([a0_0, wrap64 (Int.tdiv a0_1 1024), Int.tmod (wrap64 (Int.tdiv a0_1 32)) 32, Int.tmod a0_1 32, a0_2, a0_3] : List Int)), 0)) = some (r1, r2) := by rw [if_pos rfl] at H; exact H
 clear H
 have H := H1
 clear H1
 obtain ⟨y151, hy151⟩ : ∃ y_ : List Int, y_ = (([a0_0, wrap64 (Int.tdiv a0_1 1024), Int.tmod (wrap64 (Int.tdiv a0_1 32)) 32, Int.tmod a0_1 32, a0_2, a0_3] : List Int)) := ⟨_, rfl⟩
 replace H : (some (y151, 0)) = some (r1, r2) := by first | (rw [hy151]; with_reducible exact H) | (have H2_ := (Option.bind_some _ _).symm.trans H; rw [hy151]; with_reducible exact H2_) | (have H2_ := (Option.bind_some _ _).symm.trans H; with_reducible exact H2_) | with_reducible exact H | (rw [hy151]; exact H) | exact H
 have Ny151 := ba_.mk hy151
 clear hy151
 simp only [Option.some.injEq, Prod.mk.injEq] at H
 obtain ⟨rfl, rfl⟩ := H
 go_enter Tryz.func51, Tryz.ntmps51
 go_wp2_with (first | ((with_reducible refine md_ (N := 1) rfl ?_); refine fe_ ?hg (N := 1) ?hd (cs := #[.int .i64 a0_0, .int .i64 a0_1, .int .i64 a0_2, .int .i64 a0_3]) (t := 38) ?hr ?_; (case hd => rfl); (case hg => rfl); (case hr => exact Qt); intro gb149 hg w4 hbox hb; have n0_ := ba_.mk (wa_ Qe hb); have n1_ := ba_.mk (hbox); have n2_ := ba_.mk ((by rw [hg]; exact (za_ Qe) : w.heap.size ≤ gb149)); have n3_ := ba_.mk ((by rw [hg]; exact (za_ Qe) : w.heap.size ≤ gb149)); clear HB; have HB := n0_; have BK149 := n1_; have GW149 := n2_; have GE149 := n3_; clear n0_ n1_ n2_ n3_; clear hb hbox hg; have hcz5_0 : w4.cell? ⟨gb149, 0, none⟩ = some (.int .i64 a0_0) := (mb_ BK149.out 0).trans rfl; have hcz5_1 : w4.cell? ⟨gb149, 1, none⟩ = some (.int .i64 a0_1) := (mb_ BK149.out 1).trans rfl; have hcz5_2 : w4.cell? ⟨gb149, 2, none⟩ = some (.int .i64 a0_2) := (mb_ BK149.out 2).trans rfl; have hcz5_3 : w4.cell? ⟨gb149, 3, none⟩ = some (.int .i64 a0_3) := (mb_ BK149.out 3).trans rfl; have hfz5_0 := qa_ BK149.out 0; have hfz5_1 := qa_ BK149.out 1; have hfz5_2 := qa_ BK149.out 2; have hfz5_3 := qa_ BK149.out 3) | ((with_reducible refine ia_ (f := 60) rfl ?_); refine gc_ (some 5) rfl rfl Tryz.func60 Qb rfl #[.agg #[.int .i64 a0_0, .int .i64 a0_1, .int .i64 a0_2, .int .i64 a0_3]] rfl Qj ?_; (with_reducible refine (dd_.calls a0_0 a0_1 a0_2 a0_3 true _ A2.out).mono ?_); rintro e w6 ⟨rfl, hb⟩; refine ⟨_, rfl, ?_⟩; have n0_ := ba_.mk (ed_ (g := gb149) (o := .cells #[.int .i64 a0_0, .int .i64 a0_1, .int .i64 a0_2, .int .i64 a0_3] 38 (0, 0)) (Qr BK149.out) hb); have n1_ := ba_.mk (wa_ X3 hb); clear BK149; clear HB; have BK149 := n0_; have HB := n1_; clear n0_ n1_; (try clear hb); (try clear hb2); (try clear hk); (try clear hi); have hcz7_0 : w6.cell? ⟨gb149, 0, none⟩ = some (.int .i64 a0_0) := (mb_ BK149.out 0).trans rfl; have hcz7_1 : w6.cell? ⟨gb149, 1, none⟩ = some (.int .i64 a0_1) := (mb_ BK149.out 1).trans rfl; have hcz7_2 : w6.cell? ⟨gb149, 2, none⟩ = some (.int .i64 a0_2) := (mb_ BK149.out 2).trans rfl; have hcz7_3 : w6.cell? ⟨gb149, 3, none⟩ = some (.int .i64 a0_3) := (mb_ BK149.out 3).trans rfl; have hfz7_0 := qa_ BK149.out 0; have hfz7_1 := qa_ BK149.out 1; have hfz7_2 := qa_ BK149.out 2; have hfz7_3 := qa_ BK149.out 3) | ((with_reducible refine md_ (N := 23) rfl ?_); refine Kd.sm_ (Kd.int .i64) _ 3 ?hg (N := 23) ?hd (xs := ([a0_0, wrap64 (Int.tdiv a0_1 1024), Int.tmod (wrap64 (Int.tdiv a0_1 32)) 32, Int.tmod a0_1 32, a0_2, a0_3] : List Int)) (inner := [.int .i64 a0_0, .int .i64 (wrap64 (Int.tdiv a0_1 1024)), .int .i64 (Int.tmod (wrap64 (Int.tdiv a0_1 32)) 32), .int .i64 (Int.tmod a0_1 32), .int .i64 a0_2, .int .i64 a0_3]) (ok := fun _ => True) (okp := fun _ => True) ?hr ?hp (fun _ hk => hk) trivial (Below.refl _ _) (Nat.le_refl _) Qo ?_; (case hd => rfl); (case hg => rfl); (case hr => exact Qt); (case hp => exact (Reps.one (show Kd.M (Kd.int .i64) _ _ _ a0_0 [.int .i64 a0_0] from rfl) (Reps.one (show Kd.M (Kd.int .i64) _ _ _ (wrap64 (Int.tdiv a0_1 1024)) [.int .i64 (wrap64 (Int.tdiv a0_1 1024))] from rfl) (Reps.one (show Kd.M (Kd.int .i64) _ _ _ (Int.tmod (wrap64 (Int.tdiv a0_1 32)) 32) [.int .i64 (Int.tmod (wrap64 (Int.tdiv a0_1 32)) 32)] from rfl) (Reps.one (show Kd.M (Kd.int .i64) _ _ _ (Int.tmod a0_1 32) [.int .i64 (Int.tmod a0_1 32)] from rfl) (Reps.one (show Kd.M (Kd.int .i64) _ _ _ a0_2 [.int .i64 a0_2] from rfl) (Reps.one (show Kd.M (Kd.int .i64) _ _ _ a0_3 [.int .i64 a0_3] from rfl) (Reps.none _ _)))))))); intro v152 w8 ho9 hb hg_ hnew_; clear hg_ hnew_; (first | rw [← Ny151.out] at ho9 | (simp only [Int.reduceToNat] at ho9; rw [← Ny151.out] at ho9)); have n0_ := ba_.mk (Kd.td_ ho9 (za_ X3)); have n1_ := ba_.mk (ed_ (g := gb149) (o := .cells #[.int .i64 a0_0, .int .i64 a0_1, .int .i64 a0_2, .int .i64 a0_3] 38 (0, 0)) (Qr BK149.out) hb); have n2_ := ba_.mk (wa_ X3 hb); clear BK149; clear HB; have HO153 := n0_; have BK149 := n1_; have HB := n2_; clear n0_ n1_ n2_; clear hb ho9))
 go_ret2
 exact ⟨_, Qq, by (with_reducible repeat (first | apply Kd.eb_ | apply Kd.fb_ | apply Kd.rb_)); exact HO153.out, X3⟩
def ob_.l0 : Nat → Int → ByteArray → Int → Option (ByteArray)
 | 0, _, _, _ => none
 | k + 1, x0, x3, x4 => if x4 ≥ 0 then (if 0 ≤ (IntKind.u64.wrap (x4)) then (if (Go.bits .and .i64 (shr .i64 x0 (IntKind.u64.wrap (x4))) 1) = 1 then (if x3.size + 1 ≤ 9223372036854775807 then (ob_.l0 k x0 (x3 ++ (⟨#[49]⟩ : ByteArray)) (wrap64 (x4 - 1))) else (none)) else (if x3.size + 1 ≤ 9223372036854775807 then (ob_.l0 k x0 (x3 ++ (⟨#[48]⟩ : ByteArray)) (wrap64 (x4 - 1))) else (none))) else (none)) else (some x3)
def ob_.f (k : Nat) (a0 : Int) : Option (ByteArray) := ob_.l0 k a0 (⟨#[]⟩ : ByteArray) 4
theorem ob_.yc_ : ∀ k, (∀ y0 y1 y2, LeO (ob_.l0 k y0 y1 y2) (ob_.l0 (k + 1) y0 y1 y2))
 | 0 => fun _ _ _ r h => by simp [ob_.l0] at h
 | k + 1 => by
  have ih0 := ob_.yc_ k
  intro y0 y1 y2
  unfold ob_.l0
  repeat' first
  | (with_reducible exact ih0 _ _ _)
  | (with_reducible first | exact LeO.refl _ | exact LeO.none _ | refine LeO.ite ?_ ?_ | refine LeO.bind ?_ (fun _ => ?_))
  | exact ih0 _ _ _
  | exact LeO.none _
  | refine LeO.ite ?_ ?_
  | refine LeO.bind ?_ (fun _ => ?_)
theorem ob_.mono : ∀ a0 k, LeO (ob_.f k a0) (ob_.f (k + 1) a0) := by
 intro a0 k
 have ih0 := ob_.yc_ k
 unfold ob_.f
 repeat' first
   | (with_reducible exact ih0 _ _ _)
   | (with_reducible first | exact LeO.refl _ | exact LeO.none _ | refine LeO.ite ?_ ?_ | refine LeO.bind ?_ (fun _ => ?_))
   | exact ih0 _ _ _
   | exact LeO.none _
   | refine LeO.ite ?_ ?_
   | refine LeO.bind ?_ (fun _ => ?_)
set_option maxHeartbeats 8000000 in
set_option maxRecDepth 100000 in
theorem ob_.calls (k : Nat) (a0 : Int) (r : ByteArray) (w : World) (h : ob_.f k a0 = some r) :
  Calls Tryz.prog 53 #[.int .i64 a0] w fun e w' => e = .returned (.string r) ∧ ja_ w w' := by
 have H : (ob_.l0 k a0 (⟨#[]⟩ : ByteArray) 4) = some r := h
 clear h
 have H' := ba_.mk H
 clear H
 go_enter Tryz.func53, Tryz.ntmps53
 go_wp2
 go_loopg [3, 4] k (fun kq v3 v4 w' => ∃ (x3_1 : ByteArray) (x4_1 : Int), v3 = .string x3_1 ∧ v4 = .int .i64 x4_1 ∧ ba_ (ob_.l0 kq a0 x3_1 x4_1 = some r) ∧ ba_ (kq ≤ k) ∧ ja_ w w')
 case atStart => exact ⟨((⟨#[]⟩ : ByteArray)), (4), Qi, Qi, H', ⟨Nat.le_refl _⟩, Qp⟩
 case round =>
  clear H'
  obtain ⟨x3_1, x4_1, rfl, rfl, HA, HK1, ⟨m1, rfl⟩⟩ := hrel
  cases gk with
  | zero => exact absurd HA.out (by simp [ob_.l0])
  | succ k1 =>
   have H := HA.out
   clear HA
   simp only [ob_.l0] at H
   by_cases c2 : x4_1 ≥ 0
   rotate_left
   ·rw [if_neg c2] at H
    have c2b0 : decide (0 ≤ x4_1) = false := decide_eq_false c2
    clear c2
    obtain rfl := Option.some.inj H
    go_wp2
    go_ret
    exact ⟨Qi, Qp⟩
   rw [if_pos c2] at H
   have c2b0 : decide (0 ≤ x4_1) = true := decide_eq_true c2
   clear c2
   obtain ⟨ji3, hji3⟩ : ∃ j_ : Int, (IntKind.u64.wrap (x4_1)) = j_ := ⟨_, rfl⟩
   replace H : (if 0 ≤ (ji3) then (if (Go.bits .and .i64 (shr .i64 a0 (ji3)) 1) = 1 then (if x3_1.size + 1 ≤ 9223372036854775807 then (ob_.l0 k1 a0 (x3_1 ++ (⟨#[49]⟩ : ByteArray)) (wrap64 (x4_1 - 1))) else (none)) else (if x3_1.size + 1 ≤ 9223372036854775807 then (ob_.l0 k1 a0 (x3_1 ++ (⟨#[48]⟩ : ByteArray)) (wrap64 (x4_1 - 1))) else (none))) else (none)) = some r := by first | (rw [hji3] at H; exact H) | (simp only [hji3] at H ⊢; exact H)
   obtain ⟨c4, H⟩ := Qn H
   have c4b0 := eq_true c4
   have c4b1 := decide_eq_true c4
   clear c4
   obtain ⟨ji5, hji5⟩ : ∃ j_ : Int, (shr .i64 a0 (ji3)) = j_ := ⟨_, rfl⟩
   replace H : (if (Go.bits .and .i64 (ji5) 1) = 1 then (if x3_1.size + 1 ≤ 9223372036854775807 then (ob_.l0 k1 a0 (x3_1 ++ (⟨#[49]⟩ : ByteArray)) (wrap64 (x4_1 - 1))) else (none)) else (if x3_1.size + 1 ≤ 9223372036854775807 then (ob_.l0 k1 a0 (x3_1 ++ (⟨#[48]⟩ : ByteArray)) (wrap64 (x4_1 - 1))) else (none))) = some r := by first | (rw [hji5] at H; exact H) | (simp only [hji5] at H ⊢; exact H)
   have hji5_ : (a0 / 2 ^ min (ji3).toNat 64) = ji5 := hji5
   have hji5z : (ji3) ≤ 64 → (a0 / 2 ^ (ji3).toNat) = ji5 := cq_ hji5
   by_cases c6 : (Go.bits .and .i64 (ji5) 1) = 1
   rotate_left
   ·rw [if_neg c6] at H
    have c6b0 : ((Go.bits .and .i64 (ji5) 1) == 1) = false := beq_eq_false_iff_ne.mpr c6
    have c6b1 : ((Go.bits .and .i64 (ji5) 1) != 1) = true := bne_iff_ne.mpr c6
    obtain ⟨c8, H⟩ := Qn H
    have c8b0 := eq_true c8
    have c8b1 := decide_eq_true c8
    try have c8b2 : (9223372036854775807 < x3_1.size + 1) = False := eq_false (Nat.not_lt.2 c8)
    have H' := ba_.mk H
    clear H
    go_wp2
    go_roundg k1
    case measure => have := HK1.out; omega
    case rel => exact ⟨(x3_1 ++ (⟨#[48]⟩ : ByteArray)), (wrap64 (x4_1 - 1)), Qi, Qi, H', ⟨Qw⟩, Qp⟩
   rw [if_pos c6] at H
   have c6b0 : ((Go.bits .and .i64 (ji5) 1) == 1) = true := beq_iff_eq.mpr c6
   have c6b1 : ((Go.bits .and .i64 (ji5) 1) != 1) = false := bne_eq_false_iff_eq.mpr c6
   clear c6
   obtain ⟨c7, H⟩ := Qn H
   have c7b0 := eq_true c7
   have c7b1 := decide_eq_true c7
   try have c7b2 : (9223372036854775807 < x3_1.size + 1) = False := eq_false (Nat.not_lt.2 c7)
   have H' := ba_.mk H
   clear H
   go_wp2
   go_roundg k1
   case measure => have := HK1.out; omega
   case rel => exact ⟨(x3_1 ++ (⟨#[49]⟩ : ByteArray)), (wrap64 (x4_1 - 1)), Qi, Qi, H', ⟨Qw⟩, Qp⟩
def tb_.l0 : Nat → List Int → ByteArray → Int → Option (ByteArray × Int)
 | 0, _, _, _ => none
 | k + 1, x6, x8, x9 => if x9 < (x6.length : Int) then (if 0 ≤ x9 then ((ob_.f k (rd x6 x9)).bind fun t164 => (if x8.size + t164.size ≤ 9223372036854775807 then (tb_.l0 k x6 (x8 ++ t164) (wrap64 (x9 + 1))) else (none))) else (none)) else (if x8.size + 7 ≤ 9223372036854775807 then (some (x8 ++ (⟨#[48, 48, 48, 48, 48, 48, 48]⟩ : ByteArray), 0)) else (none))
def tb_.f (k : Nat) (a0_0 : Int) (a0_1 : Int) (a0_2 : Int) (a0_3 : Int) : Option (ByteArray × Int) := (be_.f a0_0 a0_1 a0_2 a0_3).bind fun bt155 => (if bt155.2 = 0 then ((mu_.f bt155.1).bind fun bt159 => (tb_.l0 k bt159.1 (⟨#[49, 49, 49, 49, 49, 49, 49]⟩ : ByteArray) 0)) else (some ((⟨#[]⟩ : ByteArray), bt155.2)))
theorem tb_.yc_ : ∀ k, (∀ y0 y1 y2, LeO (tb_.l0 k y0 y1 y2) (tb_.l0 (k + 1) y0 y1 y2))
 | 0 => fun _ _ _ r h => by simp [tb_.l0] at h
 | k + 1 => by
  have ih0 := tb_.yc_ k
  intro y0 y1 y2
  unfold tb_.l0
  repeat' first
  | (with_reducible exact ih0 _ _ _)
  | (with_reducible exact ob_.mono _ _)
  | (with_reducible first | exact LeO.refl _ | exact LeO.none _ | refine LeO.ite ?_ ?_ | refine LeO.bind ?_ (fun _ => ?_))
  | exact ih0 _ _ _
  | exact ob_.mono _ _
  | exact LeO.none _
  | refine LeO.ite ?_ ?_
  | refine LeO.bind ?_ (fun _ => ?_)
theorem tb_.mono : ∀ a0 a1 a2 a3 k, LeO (tb_.f k a0 a1 a2 a3) (tb_.f (k + 1) a0 a1 a2 a3) := by
 intro a0 a1 a2 a3 k
 have ih0 := tb_.yc_ k
 unfold tb_.f
 repeat' first
   | (with_reducible exact ih0 _ _ _)
   | (with_reducible exact ob_.mono _ _)
   | (with_reducible first | exact LeO.refl _ | exact LeO.none _ | refine LeO.ite ?_ ?_ | refine LeO.bind ?_ (fun _ => ?_))
   | exact ih0 _ _ _
   | exact ob_.mono _ _
   | exact LeO.none _
   | refine LeO.ite ?_ ?_
   | refine LeO.bind ?_ (fun _ => ?_)
set_option maxHeartbeats 8000000 in
set_option maxRecDepth 100000 in
theorem tb_.calls (k : Nat) (a0_0 : Int) (a0_1 : Int) (a0_2 : Int) (a0_3 : Int) (r1 : ByteArray) (r2 : Int) (w : World) (h : tb_.f k a0_0 a0_1 a0_2 a0_3 = some (r1, r2)) :
  Calls Tryz.prog 19 #[.agg #[.int .i64 a0_0, .int .i64 a0_1, .int .i64 a0_2, .int .i64 a0_3]] w fun e w' => e = .returned (.tuple #[.string r1, .int .i64 r2]) ∧ Below w.heap.size w w' := by
 have hu38 := Tryz.underlying38
 have HB := ba_.mk (Below.refl w.heap.size w)
 have H : ((be_.f a0_0 a0_1 a0_2 a0_3).bind fun bt155 => (if bt155.2 = 0 then ((mu_.f bt155.1).bind fun bt159 => (tb_.l0 k bt159.1 (⟨#[49, 49, 49, 49, 49, 49, 49]⟩ : ByteArray) 0)) else (some ((⟨#[]⟩ : ByteArray), bt155.2)))) = some (r1, r2) := h
 clear h
 obtain ⟨⟨t155, t158⟩, A2, H⟩ := Qk H
 try dsimp only at H
 by_cases c3 : t158 = 0
 rotate_left
 ·rw [if_neg c3] at H
  have c3b0 : (t158 == 0) = false := beq_eq_false_iff_ne.mpr c3
  have c3b1 : (t158 != 0) = true := bne_iff_ne.mpr c3
  simp only [Option.some.injEq, Prod.mk.injEq] at H
  obtain ⟨rfl, rfl⟩ := H
  go_enter Tryz.func19, Tryz.ntmps19
  go_wp2_with (first | ((with_reducible refine md_ (N := 1) rfl ?_); refine fe_ ?hg (N := 1) ?hd (cs := #[.int .i64 a0_0, .int .i64 a0_1, .int .i64 a0_2, .int .i64 a0_3]) (t := 38) ?hr ?_; (case hd => rfl); (case hg => rfl); (case hr => exact Qt); intro gb154 hg w17 hbox hb; have n0_ := ba_.mk (wa_ Qe hb); have n1_ := ba_.mk (hbox); have n2_ := ba_.mk ((by rw [hg]; exact (za_ Qe) : w.heap.size ≤ gb154)); have n3_ := ba_.mk ((by rw [hg]; exact (za_ Qe) : w.heap.size ≤ gb154)); clear HB; have HB := n0_; have BK154 := n1_; have GW154 := n2_; have GE154 := n3_; clear n0_ n1_ n2_ n3_; clear hb hbox hg; have hcz18_0 : w17.cell? ⟨gb154, 0, none⟩ = some (.int .i64 a0_0) := (mb_ BK154.out 0).trans rfl; have hcz18_1 : w17.cell? ⟨gb154, 1, none⟩ = some (.int .i64 a0_1) := (mb_ BK154.out 1).trans rfl; have hcz18_2 : w17.cell? ⟨gb154, 2, none⟩ = some (.int .i64 a0_2) := (mb_ BK154.out 2).trans rfl; have hcz18_3 : w17.cell? ⟨gb154, 3, none⟩ = some (.int .i64 a0_3) := (mb_ BK154.out 3).trans rfl; have hfz18_0 := qa_ BK154.out 0; have hfz18_1 := qa_ BK154.out 1; have hfz18_2 := qa_ BK154.out 2; have hfz18_3 := qa_ BK154.out 3) | ((with_reducible refine ia_ (f := 51) rfl ?_); refine gc_ (some 12) rfl rfl Tryz.func51 Qb rfl #[.agg #[.int .i64 a0_0, .int .i64 a0_1, .int .i64 a0_2, .int .i64 a0_3]] rfl Qj ?_; (with_reducible refine (be_.calls a0_0 a0_1 a0_2 a0_3 t155 t158 _ A2.out).mono ?_); rintro e w19 ⟨v156, rfl, ho0, hb⟩; refine ⟨_, rfl, ?_⟩; have n0_ := ba_.mk (Kd.td_ ho0 (za_ Xn)); have n1_ := ba_.mk (ed_ (g := gb154) (o := .cells #[.int .i64 a0_0, .int .i64 a0_1, .int .i64 a0_2, .int .i64 a0_3] 38 (0, 0)) (Qr BK154.out) hb); have n2_ := ba_.mk (wa_ Xn hb); clear BK154; clear HB; have HO157 := n0_; have BK154 := n1_; have HB := n2_; clear n0_ n1_ n2_; (try clear hb); (try clear hb2); (try clear hk); (try clear hi); (try clear ho0)))
  go_ret2
  exact ⟨Qq, Xn⟩
 rw [if_pos c3] at H
 have c3b0 : (t158 == 0) = true := beq_iff_eq.mpr c3
 have c3b1 : (t158 != 0) = false := bne_eq_false_iff_eq.mpr c3
 clear c3
 obtain ⟨⟨t159, t160⟩, A4, H⟩ := Qk H
 try dsimp only at H
 have H' := ba_.mk H
 clear H
 go_enter Tryz.func19, Tryz.ntmps19
 go_wp2_with (first | ((with_reducible refine md_ (N := 1) rfl ?_); refine fe_ ?hg (N := 1) ?hd (cs := #[.int .i64 a0_0, .int .i64 a0_1, .int .i64 a0_2, .int .i64 a0_3]) (t := 38) ?hr ?_; (case hd => rfl); (case hg => rfl); (case hr => exact Qt); intro gb154 hg w5 hbox hb; have n0_ := ba_.mk (wa_ Qe hb); have n1_ := ba_.mk (hbox); have n2_ := ba_.mk ((by rw [hg]; exact (za_ Qe) : w.heap.size ≤ gb154)); have n3_ := ba_.mk ((by rw [hg]; exact (za_ Qe) : w.heap.size ≤ gb154)); clear HB; have HB := n0_; have BK154 := n1_; have GW154 := n2_; have GE154 := n3_; clear n0_ n1_ n2_ n3_; clear hb hbox hg; have hcz6_0 : w5.cell? ⟨gb154, 0, none⟩ = some (.int .i64 a0_0) := (mb_ BK154.out 0).trans rfl; have hcz6_1 : w5.cell? ⟨gb154, 1, none⟩ = some (.int .i64 a0_1) := (mb_ BK154.out 1).trans rfl; have hcz6_2 : w5.cell? ⟨gb154, 2, none⟩ = some (.int .i64 a0_2) := (mb_ BK154.out 2).trans rfl; have hcz6_3 : w5.cell? ⟨gb154, 3, none⟩ = some (.int .i64 a0_3) := (mb_ BK154.out 3).trans rfl; have hfz6_0 := qa_ BK154.out 0; have hfz6_1 := qa_ BK154.out 1; have hfz6_2 := qa_ BK154.out 2; have hfz6_3 := qa_ BK154.out 3) | ((with_reducible refine ia_ (f := 51) rfl ?_); refine gc_ (some 12) rfl rfl Tryz.func51 Qb rfl #[.agg #[.int .i64 a0_0, .int .i64 a0_1, .int .i64 a0_2, .int .i64 a0_3]] rfl Qj ?_; (with_reducible refine (be_.calls a0_0 a0_1 a0_2 a0_3 t155 t158 _ A2.out).mono ?_); rintro e w7 ⟨v156, rfl, ho0, hb⟩; refine ⟨_, rfl, ?_⟩; have n0_ := ba_.mk (Kd.td_ ho0 (za_ Xn)); have n1_ := ba_.mk (ed_ (g := gb154) (o := .cells #[.int .i64 a0_0, .int .i64 a0_1, .int .i64 a0_2, .int .i64 a0_3] 38 (0, 0)) (Qr BK154.out) hb); have n2_ := ba_.mk (wa_ Xn hb); clear BK154; clear HB; have HO157 := n0_; have BK154 := n1_; have HB := n2_; clear n0_ n1_ n2_; (try clear hb); (try clear hb2); (try clear hk); (try clear hi); (try clear ho0); obtain ⟨Ao8, co8, eo8⟩ := Kd.pd_ HO157.out; subst eo8) | ((with_reducible refine ia_ (f := 52) rfl ?_); refine gc_ (some 20) rfl rfl Tryz.func52 Qb rfl #[.slice Ao8 t155.length co8] rfl Qj ?_; (with_reducible refine (mu_.calls _ _ t155 t159 t160 _ ?side1 ?side2 A4.out).mono ?_); (case side1 => repeat (first | exact (Kd.cc_ HO157.out).2.2 | (with_reducible refine Kd.gd_ ?_ _) | (with_reducible refine Kd.hd_ ?_ _) | (with_reducible refine Kd.yd_ ?_))); (case side2 => exact (Kd.cc_ HO157.out).2.1); rintro e w9 ⟨v161, rfl, ho0, hb⟩; refine ⟨_, rfl, ?_⟩; have n0_ := ba_.mk (Kd.ke_ (Ql HO157.out) (Kd.if_ ho0) hb); have n1_ := ba_.mk (Kd.td_ (Kd.hf_ ho0 (Kd.R_lt (Ql HO157.out))) (za_ Xn)); have n2_ := ba_.mk (ed_ (g := gb154) (o := .cells #[.int .i64 a0_0, .int .i64 a0_1, .int .i64 a0_2, .int .i64 a0_3] 38 (0, 0)) (Qr BK154.out) hb); have n3_ := ba_.mk (wa_ Xn hb); clear HO157; clear BK154; clear HB; have HO157 := n0_; have HO162 := n1_; have BK154 := n2_; have HB := n3_; clear n0_ n1_ n2_ n3_; (try clear hb); (try clear hb2); (try clear hk); (try clear hi); (try clear ho0)))
 go_loopg [8, 9] k (fun kq v8 v9 w' => ∃ (x8_1 : ByteArray) (x9_1 : Int), v8 = .string x8_1 ∧ v9 = .int .i64 x9_1 ∧ ba_ (tb_.l0 kq t159 x8_1 x9_1 = some (r1, r2)) ∧ ba_ (kq ≤ k) ∧ ba_ (Kd.R (Kd.int .i64) 3 w' w.heap.size (fun _ => True) v161 t159) ∧ ba_ (w'.heap[gb154]? = some (.cells #[.int .i64 a0_0, .int .i64 a0_1, .int .i64 a0_2, .int .i64 a0_3] 38 (0, 0))) ∧ ba_ (Below w.heap.size w w'))
 case atStart => exact ⟨((⟨#[49, 49, 49, 49, 49, 49, 49]⟩ : ByteArray)), (0), Qi, Qi, H', ⟨Nat.le_refl _⟩, ⟨by (with_reducible repeat (first | apply Kd.eb_ | apply Kd.fb_ | apply Kd.rb_)); exact Kd.rd_ HO162.out (fun _ hk => trivial)⟩, ⟨by (with_reducible repeat (first | refine db_ ?_ _ | refine pb_ ?_ | refine cb_ ?_ _)); exact BK154.out⟩, ⟨Xn⟩⟩
 case round =>
  clear H'
  try clear c1
  try clear p2
  try clear c3
  try clear c3b0
  try clear c3b1
  try clear c5
  try clear hcz6_0
  try clear hcz6_1
  try clear hcz6_2
  try clear hcz6_3
  try clear hfz6_0
  try clear hfz6_1
  try clear hfz6_2
  try clear hfz6_3
  obtain ⟨x8_1, x9_1, rfl, rfl, HA, HK1, HO_6, BK154, HB⟩ := hrel
  cases gk with
  | zero => exact absurd HA.out (by simp [tb_.l0])
  | succ k1 =>
   have H := HA.out
   clear HA
   simp only [tb_.l0] at H
   by_cases c10 : x9_1 < (t159.length : Int)
   rotate_left
   ·rw [if_neg c10] at H
    have c10b0 := decide_eq_false c10
    clear c10
    obtain ⟨c15, H⟩ := Qn H
    have c15b0 := eq_true c15
    have c15b1 := decide_eq_true c15
    try have c15b2 : (9223372036854775807 < x8_1.size + 7) = False := eq_false (Nat.not_lt.2 c15)
    simp only [Option.some.injEq, Prod.mk.injEq] at H
    obtain ⟨rfl, rfl⟩ := H
    obtain ⟨Ao16, co16, eo16⟩ := Kd.pd_ HO_6.out
    subst eo16
    go_wp2
    go_ret2
    exact ⟨Qq, Xn⟩
   rw [if_pos c10] at H
   have c10b0 := decide_eq_true c10
   clear c10
   obtain ⟨c11, H⟩ := Qn H
   have c11b0 := decide_eq_true c11
   clear c11
   obtain ⟨t164, A12, H⟩ := Qk H
   try dsimp only at H
   obtain ⟨c13, H⟩ := Qn H
   have c13b0 := eq_true c13
   have c13b1 := decide_eq_true c13
   try have c13b2 : (9223372036854775807 < x8_1.size + t164.size) = False := eq_false (Nat.not_lt.2 c13)
   have H' := ba_.mk H
   clear H
   obtain ⟨Ao14, co14, eo14⟩ := Kd.pd_ HO_6.out
   subst eo14
   have p163 : 0 ≤ (x9_1 : Int) := of_decide_eq_true Qg
   have q163 : x9_1 < (t159.length : Int) := of_decide_eq_true Qg
   obtain ⟨ad163, e163, hx163_0⟩ := Kd.sd_ (Kd.cc_ HO_6.out).2.2 x9_1 p163 q163
   cases e163
   replace p163 := eq_true p163
   replace q163 := eq_true q163
   go_wp2_with (first | ((with_reducible refine ia_ (f := 53) rfl ?_); refine gc_ (some 34) rfl rfl Tryz.func53 Qb rfl #[.int .i64 (rd t159 x9_1)] rfl Qj ?_; (with_reducible refine (ob_.calls k1 (rd t159 x9_1) t164 _ A12.out).mono ?_); rintro e w' ⟨rfl, ⟨nd, rfl⟩⟩; refine ⟨_, rfl, ?_⟩))
   go_roundg k1
   case measure => have := HK1.out; omega
   case rel => exact ⟨(x8_1 ++ t164), (wrap64 (x9_1 + 1)), Qi, Qi, H', ⟨Qw⟩, ⟨by (with_reducible repeat (first | apply Kd.eb_ | apply Kd.fb_ | apply Kd.rb_)); exact HO_6.out⟩, ⟨by (with_reducible repeat (first | refine db_ ?_ _ | refine pb_ ?_ | refine cb_ ?_ _)); exact BK154.out⟩, ⟨Xn⟩⟩
def jb_.l0 : Nat → ByteArray → List Int → Int → Option (ByteArray)
 | 0, _, _, _ => none
 | k + 1, x0, x3, x4 => if x4 ≥ 0 then (if 0 ≤ x4 then (if x4 < (x0.size : Int) then (if x3.length < 140737488355328 then (jb_.l0 k x0 (x3 ++ [bt x0 x4]) (wrap64 (x4 - 1))) else (none)) else (none)) else (none)) else (some (strOfNums x3))
def jb_.f (k : Nat) (a0 : ByteArray) : Option (ByteArray) := jb_.l0 k a0 ([] : List Int) (wrap64 ((a0.size : Int) - 1))
theorem jb_.yc_ : ∀ k, (∀ y0 y1 y2, LeO (jb_.l0 k y0 y1 y2) (jb_.l0 (k + 1) y0 y1 y2))
 | 0 => fun _ _ _ r h => by simp [jb_.l0] at h
 | k + 1 => by
  have ih0 := jb_.yc_ k
  intro y0 y1 y2
  unfold jb_.l0
  repeat' first
  | (with_reducible exact ih0 _ _ _)
  | (with_reducible first | exact LeO.refl _ | exact LeO.none _ | refine LeO.ite ?_ ?_ | refine LeO.bind ?_ (fun _ => ?_))
  | exact ih0 _ _ _
  | exact LeO.none _
  | refine LeO.ite ?_ ?_
  | refine LeO.bind ?_ (fun _ => ?_)
theorem jb_.mono : ∀ a0 k, LeO (jb_.f k a0) (jb_.f (k + 1) a0) := by
 intro a0 k
 have ih0 := jb_.yc_ k
 unfold jb_.f
 repeat' first
   | (with_reducible exact ih0 _ _ _)
   | (with_reducible first | exact LeO.refl _ | exact LeO.none _ | refine LeO.ite ?_ ?_ | refine LeO.bind ?_ (fun _ => ?_))
   | exact ih0 _ _ _
   | exact LeO.none _
   | refine LeO.ite ?_ ?_
   | refine LeO.bind ?_ (fun _ => ?_)
set_option maxHeartbeats 8000000 in
set_option maxRecDepth 100000 in
theorem jb_.calls (k : Nat) (a0 : ByteArray) (r : ByteArray) (w : World) (h : jb_.f k a0 = some r) :
  Calls Tryz.prog 21 #[.string a0] w fun e w' => e = .returned (.string r) ∧ Below w.heap.size w w' := by
 have HB := ba_.mk (Below.refl w.heap.size w)
 have H : (jb_.l0 k a0 ([] : List Int) (wrap64 ((a0.size : Int) - 1))) = some r := h
 clear h
 have H' := ba_.mk H
 clear H
 go_enter Tryz.func21, Tryz.ntmps21
 go_wp2
 go_loopg [3, 4] k (fun kq v3 v4 w' => ∃ (x3_1 : List Int) (x4_1 : Int), v4 = .int .i64 x4_1 ∧ ba_ (jb_.l0 kq a0 x3_1 x4_1 = some r) ∧ ba_ (kq ≤ k) ∧ ba_ (Kd.R (Kd.int .u8) 5 w' w.heap.size (fun _ => True) v3 x3_1) ∧ ba_ (Below w.heap.size w w'))
 case atStart => exact ⟨(([] : List Int)), (wrap64 ((a0.size : Int) - 1)), Qi, H', ⟨Nat.le_refl _⟩, ⟨Q5⟩, ⟨Qe⟩⟩
 case round =>
  clear H'
  obtain ⟨x3_1, x4_1, rfl, HA, HK1, HO_3, HB⟩ := hrel
  cases gk with
  | zero => exact absurd HA.out (by simp [jb_.l0])
  | succ k1 =>
   have H := HA.out
   clear HA
   simp only [jb_.l0] at H
   by_cases c2 : x4_1 ≥ 0
   rotate_left
   ·rw [if_neg c2] at H
    have c2b0 : decide (0 ≤ x4_1) = false := decide_eq_false c2
    clear c2
    obtain rfl := Option.some.inj H
    have hcv8 := ez_ (P := Tryz.prog) Tryz.underlying74 Tryz.underlying5 Tryz.underlying9 (Kd.jl_ HO_3.out)
    go_wp2
    go_ret
    exact ⟨Qq, Qe⟩
   rw [if_pos c2] at H
   have c2b0 : decide (0 ≤ x4_1) = true := decide_eq_true c2
   clear c2
   obtain ⟨c3, H⟩ := Qn H
   have c3b0 := decide_eq_true c3
   clear c3
   obtain ⟨c4, H⟩ := Qn H
   have c4b0 := decide_eq_true c4
   clear c4
   obtain ⟨c6, H⟩ := Qn H
   have LMc6 := ba_.mk c6
   clear c6
   obtain ⟨y165, hy165⟩ : ∃ y_ : List Int, y_ = (x3_1 ++ [bt a0 x4_1]) := ⟨_, rfl⟩
   replace H : (jb_.l0 k1 a0 y165 (wrap64 (x4_1 - 1))) = some r := by first | (rw [hy165]; with_reducible exact H) | (have H2_ := (Option.bind_some _ _).symm.trans H; rw [hy165]; with_reducible exact H2_) | (have H2_ := (Option.bind_some _ _).symm.trans H; with_reducible exact H2_) | with_reducible exact H | (rw [hy165]; exact H) | exact H
   have Ny165 := ba_.mk hy165
   clear hy165
   have H' := ba_.mk H
   clear H
   have p5 : 0 ≤ (x4_1 : Int) := of_decide_eq_true Qg
   have q5 : x4_1 < (a0.size : Int) := of_decide_eq_true Qg
   have hx5 := ik_ a0 x4_1
   replace p5 := eq_true p5
   replace q5 := eq_true q5
   go_wp2_with (first | ((with_reducible refine xd_ (b := .append) (xs := #[.tmp 12, .tmp 16]) rfl ?_); at_builtin; refine Kd.qf_ (Kd.int .u8) (w0 := w) w.heap.size rfl (.tmp 12) (.tmp 16) 74 5 (.int .u8 0) 1 rfl Tryz.underlying74 info5 rfl Qh Qa u3 x3_1 (bt a0 x4_1) [.int .u8 (bt a0 x4_1)] (fun _ => True) (fun _ => False) rfl rfl ?aP (fun _ hk => hk.elim) ?aF ?aO ?aB ?aS ?aL ?_; (case aP => exact rfl); (case aB => exact Q3); (case aF => exact Xc); (case aO => exact (Ql HO_3.out)); (case aS => exact Q4); (case aL => have := LMc6.out; omega); intro v166 w7 ho hb hg hat; rw [← Ny165.out] at ho; have n0_ := ba_.mk (hb); have n1_ := ba_.mk (ho); clear HB; clear HO_3; have HB := n0_; have HO167 := n1_; clear n0_ n1_; clear ho hb hg hat))
   go_roundg k1
   case measure => have := HK1.out; omega
   case rel => exact ⟨(y165), (wrap64 (x4_1 - 1)), Qi, H', ⟨Qw⟩, ⟨by (with_reducible repeat (first | apply Kd.eb_ | apply Kd.fb_ | apply Kd.rb_)); exact HO167.out⟩, ⟨Qe⟩⟩
def cf_.f (a0 : ByteArray) : Option (ByteArray × Int) := (mj_.f a0).bind fun t168 => (if t168 = true then ((ni_.f a0).bind fun t169 => ((bf_.f a0).bind fun t170 => (if t170 = true then (some (a0, 0)) else ((bf_.f t169).bind fun t171 => (if t171 = true then (some (t169, 0)) else (some ((⟨#[]⟩ : ByteArray), 26))))))) else (some ((⟨#[]⟩ : ByteArray), 7)))
set_option maxHeartbeats 8000000 in
set_option maxRecDepth 100000 in
theorem cf_.calls (a0 : ByteArray) (r1 : ByteArray) (r2 : Int) (w : World) (h : cf_.f a0 = some (r1, r2)) :
  Calls Tryz.prog 25 #[.string a0] w fun e w' => e = .returned (.tuple #[.string r1, .int .i64 r2]) ∧ Below w.heap.size w w' := by
 have HB := ba_.mk (Below.refl w.heap.size w)
 have H : ((mj_.f a0).bind fun t168 => (if t168 = true then ((ni_.f a0).bind fun t169 => ((bf_.f a0).bind fun t170 => (if t170 = true then (some (a0, 0)) else ((bf_.f t169).bind fun t171 => (if t171 = true then (some (t169, 0)) else (some ((⟨#[]⟩ : ByteArray), 26))))))) else (some ((⟨#[]⟩ : ByteArray), 7)))) = some (r1, r2) := h
 clear h
 obtain ⟨t168, A2, H⟩ := Qk H
 try dsimp only at H
 by_cases c3 : t168 = true
 rotate_left
 ·replace c3 := Bool.eq_false_iff.mpr c3
  subst c3
  have H1 : (some ((⟨#[]⟩ : ByteArray), 7)) = some (r1, r2) := by rw [if_neg (show ¬ (false = true) by decide)] at H; exact H
  clear H
  have H := H1
  clear H1
  simp only [Option.some.injEq, Prod.mk.injEq] at H
  obtain ⟨rfl, rfl⟩ := H
  go_enter Tryz.func25, Tryz.ntmps25
  go_wp2_with (first | ((with_reducible refine ia_ (f := 42) rfl ?_); refine gc_ (some 6) rfl rfl Tryz.func42 Qb rfl #[.string a0] rfl Qj ?_; (with_reducible refine (mj_.calls a0 false _ A2.out).mono ?_); rintro e w20 ⟨rfl, hb⟩; refine ⟨_, rfl, ?_⟩; have n0_ := ba_.mk (wa_ Qe hb); clear HB; have HB := n0_; clear n0_; (try clear hb); (try clear hb2); (try clear hk); (try clear hi)))
  go_ret2
  exact ⟨Qq, Qe⟩
 subst c3
 have H1 : ((ni_.f a0).bind fun t169 => ((bf_.f a0).bind fun t170 => (if t170 = true then (some (a0, 0)) else ((bf_.f t169).bind fun t171 => (if t171 = true then (some (t169, 0)) else (some ((⟨#[]⟩ : ByteArray), 26))))))) = some (r1, r2) := by rw [if_pos rfl] at H; exact H
 clear H
 have H := H1
 clear H1
 obtain ⟨t169, A4, H⟩ := Qk H
 try dsimp only at H
 obtain ⟨t170, A5, H⟩ := Qk H
 try dsimp only at H
 by_cases c6 : t170 = true
 ·subst c6
  have H1 : (some (a0, 0)) = some (r1, r2) := by rw [if_pos rfl] at H; exact H
  clear H
  have H := H1
  clear H1
  simp only [Option.some.injEq, Prod.mk.injEq] at H
  obtain ⟨rfl, rfl⟩ := H
  go_enter Tryz.func25, Tryz.ntmps25
  go_wp2_with (first | ((with_reducible refine ia_ (f := 42) rfl ?_); refine gc_ (some 6) rfl rfl Tryz.func42 Qb rfl #[.string a0] rfl Qj ?_; (with_reducible refine (mj_.calls a0 true _ A2.out).mono ?_); rintro e w7 ⟨rfl, hb⟩; refine ⟨_, rfl, ?_⟩; have n0_ := ba_.mk (wa_ Qe hb); clear HB; have HB := n0_; clear n0_; (try clear hb); (try clear hb2); (try clear hk); (try clear hi)) | ((with_reducible refine ia_ (f := 20) rfl ?_); refine gc_ (some 9) rfl rfl Tryz.func20 Qb rfl #[.string a0] rfl Qj ?_; (with_reducible refine (ni_.calls a0 t169 _ A4.out).mono ?_); rintro e w8 ⟨rfl, hb⟩; refine ⟨_, rfl, ?_⟩; have n0_ := ba_.mk (wa_ Qe hb); clear HB; have HB := n0_; clear n0_; (try clear hb); (try clear hb2); (try clear hk); (try clear hi)) | ((with_reducible refine ia_ (f := 56) rfl ?_); refine gc_ (some 12) rfl rfl Tryz.func56 Qb rfl #[.string a0] rfl Qj ?_; (with_reducible refine (bf_.calls a0 true _ A5.out).mono ?_); rintro e w9 ⟨rfl, hb⟩; refine ⟨_, rfl, ?_⟩; have n0_ := ba_.mk (wa_ Qe hb); clear HB; have HB := n0_; clear n0_; (try clear hb); (try clear hb2); (try clear hk); (try clear hi)))
  go_ret2
  exact ⟨Qq, Qe⟩
 replace c6 := Bool.eq_false_iff.mpr c6
 subst c6
 have H1 : ((bf_.f t169).bind fun t171 => (if t171 = true then (some (t169, 0)) else (some ((⟨#[]⟩ : ByteArray), 26)))) = some (r1, r2) := by rw [if_neg (show ¬ (false = true) by decide)] at H; exact H
 clear H
 have H := H1
 clear H1
 obtain ⟨t171, A10, H⟩ := Qk H
 try dsimp only at H
 by_cases c11 : t171 = true
 ·subst c11
  have H1 : (some (t169, 0)) = some (r1, r2) := by rw [if_pos rfl] at H; exact H
  clear H
  have H := H1
  clear H1
  simp only [Option.some.injEq, Prod.mk.injEq] at H
  obtain ⟨rfl, rfl⟩ := H
  go_enter Tryz.func25, Tryz.ntmps25
  go_wp2_with (first | ((with_reducible refine ia_ (f := 42) rfl ?_); refine gc_ (some 6) rfl rfl Tryz.func42 Qb rfl #[.string a0] rfl Qj ?_; (with_reducible refine (mj_.calls a0 true _ A2.out).mono ?_); rintro e w12 ⟨rfl, hb⟩; refine ⟨_, rfl, ?_⟩; have n0_ := ba_.mk (wa_ Qe hb); clear HB; have HB := n0_; clear n0_; (try clear hb); (try clear hb2); (try clear hk); (try clear hi)) | ((with_reducible refine ia_ (f := 20) rfl ?_); refine gc_ (some 9) rfl rfl Tryz.func20 Qb rfl #[.string a0] rfl Qj ?_; (with_reducible refine (ni_.calls a0 t169 _ A4.out).mono ?_); rintro e w13 ⟨rfl, hb⟩; refine ⟨_, rfl, ?_⟩; have n0_ := ba_.mk (wa_ Qe hb); clear HB; have HB := n0_; clear n0_; (try clear hb); (try clear hb2); (try clear hk); (try clear hi)) | ((with_reducible refine ia_ (f := 56) rfl ?_); refine gc_ (some 12) rfl rfl Tryz.func56 Qb rfl #[.string a0] rfl Qj ?_; (with_reducible refine (bf_.calls a0 false _ A5.out).mono ?_); rintro e w14 ⟨rfl, hb⟩; refine ⟨_, rfl, ?_⟩; have n0_ := ba_.mk (wa_ Qe hb); clear HB; have HB := n0_; clear n0_; (try clear hb); (try clear hb2); (try clear hk); (try clear hi)) | ((with_reducible refine ia_ (f := 56) rfl ?_); refine gc_ (some 16) rfl rfl Tryz.func56 Qb rfl #[.string t169] rfl Qj ?_; (with_reducible refine (bf_.calls t169 true _ A10.out).mono ?_); rintro e w15 ⟨rfl, hb⟩; refine ⟨_, rfl, ?_⟩; have n0_ := ba_.mk (wa_ Qe hb); clear HB; have HB := n0_; clear n0_; (try clear hb); (try clear hb2); (try clear hk); (try clear hi)))
  go_ret2
  exact ⟨Qq, Qe⟩
 replace c11 := Bool.eq_false_iff.mpr c11
 subst c11
 have H1 : (some ((⟨#[]⟩ : ByteArray), 26)) = some (r1, r2) := by rw [if_neg (show ¬ (false = true) by decide)] at H; exact H
 clear H
 have H := H1
 clear H1
 simp only [Option.some.injEq, Prod.mk.injEq] at H
 obtain ⟨rfl, rfl⟩ := H
 go_enter Tryz.func25, Tryz.ntmps25
 go_wp2_with (first | ((with_reducible refine ia_ (f := 42) rfl ?_); refine gc_ (some 6) rfl rfl Tryz.func42 Qb rfl #[.string a0] rfl Qj ?_; (with_reducible refine (mj_.calls a0 true _ A2.out).mono ?_); rintro e w16 ⟨rfl, hb⟩; refine ⟨_, rfl, ?_⟩; have n0_ := ba_.mk (wa_ Qe hb); clear HB; have HB := n0_; clear n0_; (try clear hb); (try clear hb2); (try clear hk); (try clear hi)) | ((with_reducible refine ia_ (f := 20) rfl ?_); refine gc_ (some 9) rfl rfl Tryz.func20 Qb rfl #[.string a0] rfl Qj ?_; (with_reducible refine (ni_.calls a0 t169 _ A4.out).mono ?_); rintro e w17 ⟨rfl, hb⟩; refine ⟨_, rfl, ?_⟩; have n0_ := ba_.mk (wa_ Qe hb); clear HB; have HB := n0_; clear n0_; (try clear hb); (try clear hb2); (try clear hk); (try clear hi)) | ((with_reducible refine ia_ (f := 56) rfl ?_); refine gc_ (some 12) rfl rfl Tryz.func56 Qb rfl #[.string a0] rfl Qj ?_; (with_reducible refine (bf_.calls a0 false _ A5.out).mono ?_); rintro e w18 ⟨rfl, hb⟩; refine ⟨_, rfl, ?_⟩; have n0_ := ba_.mk (wa_ Qe hb); clear HB; have HB := n0_; clear n0_; (try clear hb); (try clear hb2); (try clear hk); (try clear hi)) | ((with_reducible refine ia_ (f := 56) rfl ?_); refine gc_ (some 16) rfl rfl Tryz.func56 Qb rfl #[.string t169] rfl Qj ?_; (with_reducible refine (bf_.calls t169 false _ A10.out).mono ?_); rintro e w19 ⟨rfl, hb⟩; refine ⟨_, rfl, ?_⟩; have n0_ := ba_.mk (wa_ Qe hb); clear HB; have HB := n0_; clear n0_; (try clear hb); (try clear hb2); (try clear hk); (try clear hi)))
 go_ret2
 exact ⟨Qq, Qe⟩
end Go.Proofs.YtpkhgapifnjbeaaGreatDoor.T
end
section
namespace Go.Proofs.YtpkhgapifnjbeaaGreatDoor.T
open RowKit G Rs Zw.PrintWords Zw.PrintLast Zw.PrintMore
attribute [local go_sem] id_ kd_ vd_ wd_ bd_ cd_ jd_ ld_
attribute [local go_sem high] eqA38
def ee_.f (a0 : ByteArray) : Option (Int × Int × Int × Int × Int × Int) := (cf_.f a0).bind fun bt173 => (if bt173.2 = 0 then ((sj_.f bt173.1).bind fun bt175 => ((tn_.f bt175.1).bind fun bt179 => (if bt179.2.2 = 0 then (if 0 < (bt179.1.length : Int) then (if 1 < (bt179.1.length : Int) then (if 2 < (bt179.1.length : Int) then (if 3 < (bt179.1.length : Int) then (if 4 < (bt179.1.length : Int) then (if 5 < (bt179.1.length : Int) then ((lj_.f (rd bt179.1 0) (wrap64 ((wrap64 ((wrap64 ((rd bt179.1 1) * 1024)) + (wrap64 ((rd bt179.1 2) * 32)))) + (rd bt179.1 3))) (rd bt179.1 4) (rd bt179.1 5)).bind fun t190 => (if t190 = true then (some (rd bt179.1 0, wrap64 ((wrap64 ((wrap64 ((rd bt179.1 1) * 1024)) + (wrap64 ((rd bt179.1 2) * 32)))) + (rd bt179.1 3)), rd bt179.1 4, rd bt179.1 5, bt179.2.1, 0)) else (some (0, 0, 0, 0, 0, 2)))) else (none)) else (none)) else (none)) else (none)) else (none)) else (none)) else (some (0, 0, 0, 0, 0, bt179.2.2))))) else (some (0, 0, 0, 0, 0, bt173.2)))
def ee_.T8 : Bool × List (List Nat × List Nat) := (true, [([], []), ([0], [0]), ([1], [1]), ([], []), ([3], [3]), ([4], [4]), ([5], [5]), ([], []), ([7], [7]), ([8], [8]), ([9], [9]), ([6, 10], [6, 10]), ([], []), ([12], [12]), ([13], [13]), ([11, 14], [11, 14]), ([], []), ([16], [16]), ([17], [17]), ([], []), ([19], [19]), ([20], [20]), ([2, 15, 18, 21], [2, 15, 18, 21]), ([22, 0, 1, 2, 3, 4, 5, 6, 7, 8, 9, 10, 11, 12, 13, 14, 15, 16, 17, 18, 19, 20, 21, 22], [22])])
def ee_.B8 : List Nat := [0, 1, 3, 0, 8, 24, 56, 0, 128, 384, 896, 2040, 0, 4096, 12288, 32760, 0, 65536, 196608, 0, 524288, 1572864, 4194303, 8388607]
theorem ee_.tab8 : rtab .any (opsOf Tryz.f15 8) = ee_.T8 := by kernel_rfl
theorem ee_.kv_ : vg_ ee_.T8.2 ee_.B8 = true := by kernel_rfl
set_option maxHeartbeats 8000000 in
set_option maxRecDepth 100000 in
theorem ee_.calls (a0 : ByteArray) (r1 : Int) (r2 : Int) (r3 : Int) (r4 : Int) (r5 : Int) (r6 : Int) (w : World) (h : ee_.f a0 = some (r1, r2, r3, r4, r5, r6)) :
  Calls Tryz.prog 15 #[.string a0] w fun e w' => e = .returned (.tuple #[.agg #[.int .i64 r1, .int .i64 r2, .int .i64 r3, .int .i64 r4], .int .i64 r5, .int .i64 r6]) ∧ Below w.heap.size w w' := by
 have hu38 := Tryz.underlying38
 have HB := ba_.mk (Below.refl w.heap.size w)
 have H : ((cf_.f a0).bind fun bt173 => (if bt173.2 = 0 then ((sj_.f bt173.1).bind fun bt175 => ((tn_.f bt175.1).bind fun bt179 => (if bt179.2.2 = 0 then (if 0 < (bt179.1.length : Int) then (if 1 < (bt179.1.length : Int) then (if 2 < (bt179.1.length : Int) then (if 3 < (bt179.1.length : Int) then (if 4 < (bt179.1.length : Int) then (if 5 < (bt179.1.length : Int) then ((lj_.f (rd bt179.1 0) (wrap64 ((wrap64 ((wrap64 ((rd bt179.1 1) * 1024)) + (wrap64 ((rd bt179.1 2) * 32)))) + (rd bt179.1 3))) (rd bt179.1 4) (rd bt179.1 5)).bind fun t190 => (if t190 = true then (some (rd bt179.1 0, wrap64 ((wrap64 ((wrap64 ((rd bt179.1 1) * 1024)) + (wrap64 ((rd bt179.1 2) * 32)))) + (rd bt179.1 3)), rd bt179.1 4, rd bt179.1 5, bt179.2.1, 0)) else (some (0, 0, 0, 0, 0, 2)))) else (none)) else (none)) else (none)) else (none)) else (none)) else (none)) else (some (0, 0, 0, 0, 0, bt179.2.2))))) else (some (0, 0, 0, 0, 0, bt173.2)))) = some (r1, r2, r3, r4, r5, r6) := h
 clear h
 obtain ⟨⟨t173, t174⟩, A2, H⟩ := Qk H
 try dsimp only at H
 by_cases c3 : t174 = 0
 rotate_left
 ·rw [if_neg c3] at H
  have c3b0 : (t174 == 0) = false := beq_eq_false_iff_ne.mpr c3
  have c3b1 : (t174 != 0) = true := bne_iff_ne.mpr c3
  simp only [Option.some.injEq, Prod.mk.injEq] at H
  obtain ⟨rfl, rfl, rfl, rfl, rfl, rfl⟩ := H
  go_enter Tryz.func15, Tryz.ntmps15
  go_wp2_with (first | ((with_reducible refine md_ (N := 2) rfl ?_); refine fe_ ?hg (N := 2) ?hd (cs := #[.int .i64 0, .int .i64 0, .int .i64 0, .int .i64 0]) (t := 38) ?hr ?_; (case hd => rfl); (case hg => rfl); (case hr => exact Qt); intro gb172 hg w49 hbox hb; have n0_ := ba_.mk (wa_ Qe hb); have n1_ := ba_.mk (hbox); have n2_ := ba_.mk ((by rw [hg]; exact (za_ Qe) : w.heap.size ≤ gb172)); have n3_ := ba_.mk ((by rw [hg]; exact (za_ Qe) : w.heap.size ≤ gb172)); clear HB; have HB := n0_; have BK172 := n1_; have GW172 := n2_; have GE172 := n3_; clear n0_ n1_ n2_ n3_; clear hb hbox hg) | ((with_reducible refine ia_ (f := 25) rfl ?_); refine gc_ (some 10) rfl rfl Tryz.func25 Qb rfl #[.string a0] rfl Qj ?_; (with_reducible refine (cf_.calls a0 t173 t174 _ A2.out).mono ?_); rintro e w50 ⟨rfl, hb⟩; refine ⟨_, rfl, ?_⟩; have n0_ := ba_.mk (ed_ (g := gb172) (o := .cells #[.int .i64 0, .int .i64 0, .int .i64 0, .int .i64 0] 38 (0, 0)) (Qr BK172.out) hb); have n1_ := ba_.mk (wa_ Q6 hb); clear BK172; clear HB; have BK172 := n0_; have HB := n1_; clear n0_ n1_; (try clear hb); (try clear hb2); (try clear hk); (try clear hi); have hcz51_0 : w50.cell? ⟨gb172, 0, none⟩ = some (.int .i64 0) := (mb_ BK172.out 0).trans rfl; have hcz51_1 : w50.cell? ⟨gb172, 1, none⟩ = some (.int .i64 0) := (mb_ BK172.out 1).trans rfl; have hcz51_2 : w50.cell? ⟨gb172, 2, none⟩ = some (.int .i64 0) := (mb_ BK172.out 2).trans rfl; have hcz51_3 : w50.cell? ⟨gb172, 3, none⟩ = some (.int .i64 0) := (mb_ BK172.out 3).trans rfl; have hfz51_0 := qa_ BK172.out 0; have hfz51_1 := qa_ BK172.out 1; have hfz51_2 := qa_ BK172.out 2; have hfz51_3 := qa_ BK172.out 3))
  refine bodyPost_ret (jg_ rfl _ _ gb172 38 #[.int .i64 0, .int .i64 0, .int .i64 0, .int .i64 0] (0, 0) _ rfl (by (with_reducible repeat (first | refine db_ ?_ _ | refine pb_ ?_ | refine cb_ ?_ _)); refine od_ (cs := #[.int .i64 0, .int .i64 0, .int .i64 0, .int .i64 0]) ?_ 3 _ rfl; (with_reducible repeat (first | refine db_ ?_ _ | refine pb_ ?_ | refine cb_ ?_ _)); refine od_ (cs := #[.int .i64 0, .int .i64 0, .int .i64 0, .int .i64 0]) ?_ 2 _ rfl; (with_reducible repeat (first | refine db_ ?_ _ | refine pb_ ?_ | refine cb_ ?_ _)); refine od_ (cs := #[.int .i64 0, .int .i64 0, .int .i64 0, .int .i64 0]) ?_ 1 _ rfl; (with_reducible repeat (first | refine db_ ?_ _ | refine pb_ ?_ | refine cb_ ?_ _)); refine od_ (cs := #[.int .i64 0, .int .i64 0, .int .i64 0, .int .i64 0]) ?_ 0 _ rfl; (with_reducible repeat (first | refine db_ ?_ _ | refine pb_ ?_ | refine cb_ ?_ _)); exact BK172.out) Tryz.underlying38 rfl Qb) rfl ?_
  exact ⟨Qq, Q6⟩
 rw [if_pos c3] at H
 have c3b0 : (t174 == 0) = true := beq_iff_eq.mpr c3
 have c3b1 : (t174 != 0) = false := bne_eq_false_iff_eq.mpr c3
 clear c3
 obtain ⟨⟨t175, t176⟩, A4, H⟩ := Qk H
 try dsimp only at H
 obtain ⟨⟨t179, t180, t181⟩, A5, H⟩ := Qk H
 try dsimp only at H
 by_cases c6 : t181 = 0
 rotate_left
 ·rw [if_neg c6] at H
  have c6b0 : (t181 == 0) = false := beq_eq_false_iff_ne.mpr c6
  have c6b1 : (t181 != 0) = true := bne_iff_ne.mpr c6
  simp only [Option.some.injEq, Prod.mk.injEq] at H
  obtain ⟨rfl, rfl, rfl, rfl, rfl, rfl⟩ := H
  go_enter Tryz.func15, Tryz.ntmps15
  go_wp2_with (first | ((with_reducible refine md_ (N := 2) rfl ?_); refine fe_ ?hg (N := 2) ?hd (cs := #[.int .i64 0, .int .i64 0, .int .i64 0, .int .i64 0]) (t := 38) ?hr ?_; (case hd => rfl); (case hg => rfl); (case hr => exact Qt); intro gb172 hg w43 hbox hb; have n0_ := ba_.mk (wa_ Qe hb); have n1_ := ba_.mk (hbox); have n2_ := ba_.mk ((by rw [hg]; exact (za_ Qe) : w.heap.size ≤ gb172)); have n3_ := ba_.mk ((by rw [hg]; exact (za_ Qe) : w.heap.size ≤ gb172)); clear HB; have HB := n0_; have BK172 := n1_; have GW172 := n2_; have GE172 := n3_; clear n0_ n1_ n2_ n3_; clear hb hbox hg) | ((with_reducible refine ia_ (f := 25) rfl ?_); refine gc_ (some 10) rfl rfl Tryz.func25 Qb rfl #[.string a0] rfl Qj ?_; (with_reducible refine (cf_.calls a0 t173 t174 _ A2.out).mono ?_); rintro e w44 ⟨rfl, hb⟩; refine ⟨_, rfl, ?_⟩; have n0_ := ba_.mk (ed_ (g := gb172) (o := .cells #[.int .i64 0, .int .i64 0, .int .i64 0, .int .i64 0] 38 (0, 0)) (Qr BK172.out) hb); have n1_ := ba_.mk (wa_ Q6 hb); clear BK172; clear HB; have BK172 := n0_; have HB := n1_; clear n0_ n1_; (try clear hb); (try clear hb2); (try clear hk); (try clear hi)) | ((with_reducible refine ia_ (f := 12) rfl ?_); refine gc_ (some 19) rfl rfl Tryz.func12 Qb rfl #[.string t173] rfl Qj ?_; (with_reducible refine (sj_.calls t173 t175 t176 _ A4.out).mono ?_); rintro e w45 ⟨v177, rfl, ho0, hb⟩; refine ⟨_, rfl, ?_⟩; have n0_ := ba_.mk (Kd.td_ ho0 (za_ Q6)); have n1_ := ba_.mk (ed_ (g := gb172) (o := .cells #[.int .i64 0, .int .i64 0, .int .i64 0, .int .i64 0] 38 (0, 0)) (Qr BK172.out) hb); have n2_ := ba_.mk (wa_ Q6 hb); clear BK172; clear HB; have HO178 := n0_; have BK172 := n1_; have HB := n2_; clear n0_ n1_ n2_; (try clear hb); (try clear hb2); (try clear hk); (try clear hi); (try clear ho0); obtain ⟨Ao46, co46, eo46⟩ := Kd.pd_ HO178.out; subst eo46) | ((with_reducible refine ia_ (f := 46) rfl ?_); refine gc_ (some 24) rfl rfl Tryz.func46 Qb rfl #[.slice Ao46 t175.length co46] rfl Qj ?_; (with_reducible refine (tn_.calls _ _ t175 t179 t180 t181 _ ?side1 ?side2 A5.out).mono ?_); (case side1 => repeat (first | exact (Kd.cc_ HO178.out).2.2 | (with_reducible refine Kd.gd_ ?_ _) | (with_reducible refine Kd.hd_ ?_ _) | (with_reducible refine Kd.yd_ ?_))); (case side2 => exact (Kd.cc_ HO178.out).2.1); rintro e w47 ⟨v182, rfl, ho0, hb⟩; refine ⟨_, rfl, ?_⟩; have n0_ := ba_.mk (Kd.ke_ (Ql HO178.out) (Kd.if_ ho0) hb); have n1_ := ba_.mk (Kd.td_ (Kd.hf_ ho0 (Kd.R_lt (Ql HO178.out))) (za_ Q6)); have n2_ := ba_.mk (ed_ (g := gb172) (o := .cells #[.int .i64 0, .int .i64 0, .int .i64 0, .int .i64 0] 38 (0, 0)) (Qr BK172.out) hb); have n3_ := ba_.mk (wa_ Q6 hb); clear HO178; clear BK172; clear HB; have HO178 := n0_; have HO183 := n1_; have BK172 := n2_; have HB := n3_; clear n0_ n1_ n2_ n3_; (try clear hb); (try clear hb2); (try clear hk); (try clear hi); (try clear ho0); have hcz48_0 : w47.cell? ⟨gb172, 0, none⟩ = some (.int .i64 0) := (mb_ BK172.out 0).trans rfl; have hcz48_1 : w47.cell? ⟨gb172, 1, none⟩ = some (.int .i64 0) := (mb_ BK172.out 1).trans rfl; have hcz48_2 : w47.cell? ⟨gb172, 2, none⟩ = some (.int .i64 0) := (mb_ BK172.out 2).trans rfl; have hcz48_3 : w47.cell? ⟨gb172, 3, none⟩ = some (.int .i64 0) := (mb_ BK172.out 3).trans rfl; have hfz48_0 := qa_ BK172.out 0; have hfz48_1 := qa_ BK172.out 1; have hfz48_2 := qa_ BK172.out 2; have hfz48_3 := qa_ BK172.out 3))
  refine bodyPost_ret (jg_ rfl _ _ gb172 38 #[.int .i64 0, .int .i64 0, .int .i64 0, .int .i64 0] (0, 0) _ rfl (by (with_reducible repeat (first | refine db_ ?_ _ | refine pb_ ?_ | refine cb_ ?_ _)); refine od_ (cs := #[.int .i64 0, .int .i64 0, .int .i64 0, .int .i64 0]) ?_ 3 _ rfl; (with_reducible repeat (first | refine db_ ?_ _ | refine pb_ ?_ | refine cb_ ?_ _)); refine od_ (cs := #[.int .i64 0, .int .i64 0, .int .i64 0, .int .i64 0]) ?_ 2 _ rfl; (with_reducible repeat (first | refine db_ ?_ _ | refine pb_ ?_ | refine cb_ ?_ _)); refine od_ (cs := #[.int .i64 0, .int .i64 0, .int .i64 0, .int .i64 0]) ?_ 1 _ rfl; (with_reducible repeat (first | refine db_ ?_ _ | refine pb_ ?_ | refine cb_ ?_ _)); refine od_ (cs := #[.int .i64 0, .int .i64 0, .int .i64 0, .int .i64 0]) ?_ 0 _ rfl; (with_reducible repeat (first | refine db_ ?_ _ | refine pb_ ?_ | refine cb_ ?_ _)); exact BK172.out) Tryz.underlying38 rfl Qb) rfl ?_
  exact ⟨Qq, Q6⟩
 rw [if_pos c6] at H
 have c6b0 : (t181 == 0) = true := beq_iff_eq.mpr c6
 have c6b1 : (t181 != 0) = false := bne_eq_false_iff_eq.mpr c6
 clear c6
 obtain ⟨c7, H⟩ := Qn H
 have c7b0 := decide_eq_true c7
 have c7b1 : decide (0 < t179.length) = true := decide_eq_true Qa
 clear c7
 obtain ⟨c8, H⟩ := Qn H
 have c8b0 := decide_eq_true c8
 have c8b1 : decide (1 < t179.length) = true := decide_eq_true Qa
 clear c8
 obtain ⟨c9, H⟩ := Qn H
 have c9b0 := decide_eq_true c9
 have c9b1 : decide (2 < t179.length) = true := decide_eq_true Qa
 clear c9
 obtain ⟨c10, H⟩ := Qn H
 have c10b0 := decide_eq_true c10
 have c10b1 : decide (3 < t179.length) = true := decide_eq_true Qa
 clear c10
 obtain ⟨c11, H⟩ := Qn H
 have c11b0 := decide_eq_true c11
 have c11b1 : decide (4 < t179.length) = true := decide_eq_true Qa
 clear c11
 obtain ⟨c12, H⟩ := Qn H
 have c12b0 := decide_eq_true c12
 have c12b1 : decide (5 < t179.length) = true := decide_eq_true Qa
 clear c12
 obtain ⟨t190, A13, H⟩ := Qk H
 try dsimp only at H
 by_cases c14 : t190 = true
 ·subst c14
  have H1 : (some (rd t179 0, wrap64 ((wrap64 ((wrap64 ((rd t179 1) * 1024)) + (wrap64 ((rd t179 2) * 32)))) + (rd t179 3)), rd t179 4, rd t179 5, t180, 0)) = some (r1, r2, r3, r4, r5, r6) := by rw [if_pos rfl] at H; exact H
  clear H
  have H := H1
  clear H1
  simp only [Option.some.injEq, Prod.mk.injEq] at H
  obtain ⟨rfl, rfl, rfl, rfl, rfl, rfl⟩ := H
  go_enter Tryz.func15, Tryz.ntmps15
  try go_wp2_with (first | ((with_reducible refine md_ (N := 2) rfl ?_); refine fe_ ?hg (N := 2) ?hd (cs := #[.int .i64 0, .int .i64 0, .int .i64 0, .int .i64 0]) (t := 38) ?hr ?_; (case hd => rfl); (case hg => rfl); (case hr => exact Qt); intro gb172 hg w15 hbox hb; have n0_ := ba_.mk (wa_ Qe hb); have n1_ := ba_.mk (hbox); have n2_ := ba_.mk ((by rw [hg]; exact (za_ Qe) : w.heap.size ≤ gb172)); have n3_ := ba_.mk ((by rw [hg]; exact (za_ Qe) : w.heap.size ≤ gb172)); clear HB; have HB := n0_; have BK172 := n1_; have GW172 := n2_; have GE172 := n3_; clear n0_ n1_ n2_ n3_; clear hb hbox hg) | ((with_reducible refine ia_ (f := 25) rfl ?_); refine gc_ (some 10) rfl rfl Tryz.func25 Qb rfl #[.string a0] rfl Qj ?_; (with_reducible refine (cf_.calls a0 t173 t174 _ A2.out).mono ?_); rintro e w16 ⟨rfl, hb⟩; refine ⟨_, rfl, ?_⟩; have n0_ := ba_.mk (ed_ (g := gb172) (o := .cells #[.int .i64 0, .int .i64 0, .int .i64 0, .int .i64 0] 38 (0, 0)) (Qr BK172.out) hb); have n1_ := ba_.mk (wa_ Q6 hb); clear BK172; clear HB; have BK172 := n0_; have HB := n1_; clear n0_ n1_; (try clear hb); (try clear hb2); (try clear hk); (try clear hi)) | ((with_reducible refine ia_ (f := 12) rfl ?_); refine gc_ (some 19) rfl rfl Tryz.func12 Qb rfl #[.string t173] rfl Qj ?_; (with_reducible refine (sj_.calls t173 t175 t176 _ A4.out).mono ?_); rintro e w17 ⟨v177, rfl, ho0, hb⟩; refine ⟨_, rfl, ?_⟩; have n0_ := ba_.mk (Kd.td_ ho0 (za_ Q6)); have n1_ := ba_.mk (ed_ (g := gb172) (o := .cells #[.int .i64 0, .int .i64 0, .int .i64 0, .int .i64 0] 38 (0, 0)) (Qr BK172.out) hb); have n2_ := ba_.mk (wa_ Q6 hb); clear BK172; clear HB; have HO178 := n0_; have BK172 := n1_; have HB := n2_; clear n0_ n1_ n2_; (try clear hb); (try clear hb2); (try clear hk); (try clear hi); (try clear ho0); obtain ⟨Ao18, co18, eo18⟩ := Kd.pd_ HO178.out; subst eo18) | ((with_reducible refine ia_ (f := 46) rfl ?_); refine gc_ (some 24) rfl rfl Tryz.func46 Qb rfl #[.slice Ao18 t175.length co18] rfl Qj ?_; (with_reducible refine (tn_.calls _ _ t175 t179 t180 t181 _ ?side1 ?side2 A5.out).mono ?_); (case side1 => repeat (first | exact (Kd.cc_ HO178.out).2.2 | (with_reducible refine Kd.gd_ ?_ _) | (with_reducible refine Kd.hd_ ?_ _) | (with_reducible refine Kd.yd_ ?_))); (case side2 => exact (Kd.cc_ HO178.out).2.1); rintro e w19 ⟨v182, rfl, ho0, hb⟩; refine ⟨_, rfl, ?_⟩; have n0_ := ba_.mk (Kd.ke_ (Ql HO178.out) (Kd.if_ ho0) hb); have n1_ := ba_.mk (Kd.td_ (Kd.hf_ ho0 (Kd.R_lt (Ql HO178.out))) (za_ Q6)); have n2_ := ba_.mk (ed_ (g := gb172) (o := .cells #[.int .i64 0, .int .i64 0, .int .i64 0, .int .i64 0] 38 (0, 0)) (Qr BK172.out) hb); have n3_ := ba_.mk (wa_ Q6 hb); clear HO178; clear BK172; clear HB; have HO178 := n0_; have HO183 := n1_; have BK172 := n2_; have HB := n3_; clear n0_ n1_ n2_ n3_; (try clear hb); (try clear hb2); (try clear hk); (try clear hi); (try clear ho0)))
  have n0_ := ba_.mk (Kd.rb_ HO178.out)
  have n1_ := ba_.mk (Kd.rb_ HO183.out)
  have n2_ := ba_.mk (pb_ BK172.out)
  have n3_ := ba_.mk (ca_ HB.out)
  clear HO178
  clear HO183
  clear BK172
  clear HB
  have HO178 := n0_
  have HO183 := n1_
  have BK172 := n2_
  have HB := n3_
  clear n0_ n1_ n2_ n3_
  obtain ⟨Ao21, co21, eo21⟩ := Kd.pd_ HO183.out
  (first | subst eo21 | (injection eo21 with f1_ f2_ f3_; have f4_ := f1_.symm; have f5_ := f3_.symm; clear f1_ f2_ f3_; subst f4_; subst f5_))
  have p184 : 0 ≤ (0 : Int) := Qa
  have q184 : 0 < (t179.length : Int) := of_decide_eq_true Qg
  obtain ⟨ad184, e184, hx184_0⟩ := Kd.sd_ (Kd.cc_ HO183.out).2.2 0 p184 q184
  cases e184
  have qi184 : (0 < t179.length) = True := eq_true Qa
  (try rw [show ((0 : Int)).toNat = 0 from rfl] at hx184_0)
  (try rw [Addr.add_zero'] at hx184_0)
  replace p184 := eq_true p184
  replace q184 := eq_true q184
  have p185 : 0 ≤ (1 : Int) := Qa
  have q185 : 1 < (t179.length : Int) := of_decide_eq_true Qg
  obtain ⟨ad185, e185, hx185_0⟩ := Kd.sd_ (Kd.cc_ HO183.out).2.2 1 p185 q185
  obtain rfl : ad184 = ad185 := (by injection e185)
  (try simp only [show (1 : Int).toNat = 1 from rfl, Nat.reduceMul, Nat.reduceEqDiff, Go.Addr.add, ↓reduceIte] at hx185_0)
  have qi185 : (1 < t179.length) = True := eq_true Qa
  (try rw [show ((1 : Int)).toNat = 1 from rfl] at hx185_0)
  replace p185 := eq_true p185
  replace q185 := eq_true q185
  have p186 : 0 ≤ (2 : Int) := Qa
  have q186 : 2 < (t179.length : Int) := of_decide_eq_true Qg
  obtain ⟨ad186, e186, hx186_0⟩ := Kd.sd_ (Kd.cc_ HO183.out).2.2 2 p186 q186
  obtain rfl : ad184 = ad186 := (by injection e186)
  (try simp only [show (2 : Int).toNat = 2 from rfl, Nat.reduceMul, Nat.reduceEqDiff, Go.Addr.add, ↓reduceIte] at hx186_0)
  have qi186 : (2 < t179.length) = True := eq_true Qa
  (try rw [show ((2 : Int)).toNat = 2 from rfl] at hx186_0)
  replace p186 := eq_true p186
  replace q186 := eq_true q186
  have p187 : 0 ≤ (3 : Int) := Qa
  have q187 : 3 < (t179.length : Int) := of_decide_eq_true Qg
  obtain ⟨ad187, e187, hx187_0⟩ := Kd.sd_ (Kd.cc_ HO183.out).2.2 3 p187 q187
  obtain rfl : ad184 = ad187 := (by injection e187)
  (try simp only [show (3 : Int).toNat = 3 from rfl, Nat.reduceMul, Nat.reduceEqDiff, Go.Addr.add, ↓reduceIte] at hx187_0)
  have qi187 : (3 < t179.length) = True := eq_true Qa
  (try rw [show ((3 : Int)).toNat = 3 from rfl] at hx187_0)
  replace p187 := eq_true p187
  replace q187 := eq_true q187
  have p188 : 0 ≤ (4 : Int) := Qa
  have q188 : 4 < (t179.length : Int) := of_decide_eq_true Qg
  obtain ⟨ad188, e188, hx188_0⟩ := Kd.sd_ (Kd.cc_ HO183.out).2.2 4 p188 q188
  obtain rfl : ad184 = ad188 := (by injection e188)
  (try simp only [show (4 : Int).toNat = 4 from rfl, Nat.reduceMul, Nat.reduceEqDiff, Go.Addr.add, ↓reduceIte] at hx188_0)
  have qi188 : (4 < t179.length) = True := eq_true Qa
  (try rw [show ((4 : Int)).toNat = 4 from rfl] at hx188_0)
  replace p188 := eq_true p188
  replace q188 := eq_true q188
  have p189 : 0 ≤ (5 : Int) := Qa
  have q189 : 5 < (t179.length : Int) := of_decide_eq_true Qg
  obtain ⟨ad189, e189, hx189_0⟩ := Kd.sd_ (Kd.cc_ HO183.out).2.2 5 p189 q189
  obtain rfl : ad184 = ad189 := (by injection e189)
  (try simp only [show (5 : Int).toNat = 5 from rfl, Nat.reduceMul, Nat.reduceEqDiff, Go.Addr.add, ↓reduceIte] at hx189_0)
  have qi189 : (5 < t179.length) = True := eq_true Qa
  (try rw [show ((5 : Int)).toNat = 5 from rfl] at hx189_0)
  replace p189 := eq_true p189
  replace q189 := eq_true q189
  refine kh_ (n := 24) (S := fun w' => w'.cell? ad184 = some (.int .i64 (rd t179 0)) ∧ w'.cell? ⟨ad184.block, ad184.off + 1, none⟩ = some (.int .i64 (rd t179 1)) ∧ w'.cell? ⟨ad184.block, ad184.off + 2, none⟩ = some (.int .i64 (rd t179 2)) ∧ w'.cell? ⟨ad184.block, ad184.off + 3, none⟩ = some (.int .i64 (rd t179 3)) ∧ w'.cell? ⟨ad184.block, ad184.off + 4, none⟩ = some (.int .i64 (rd t179 4)) ∧ w'.cell? ⟨ad184.block, ad184.off + 5, none⟩ = some (.int .i64 (rd t179 5))) (ds := []) Qau Qb rfl rfl ⟨hx184_0, hx185_0, hx186_0, hx187_0, hx188_0, hx189_0⟩ (fun hHeld => ?_); refine lh_ ee_.tab8 ee_.kv_ (fun HT_ HW_ => ?_)
  generalize w19.drew = w20 at HO178 HO183 BK172 HB hx184_0 hx185_0 hx186_0 hx187_0 hx188_0 hx189_0 hHeld ⊢
  refine oc_ (i := 0) (N := some 32) (v := ?_) (a' := ?_) Qav rfl rfl Qm Qd (Or.inl ⟨by rfl, ?_⟩) ?_ ?_
  rotate_left
  ·exact Qf
  rotate_left
  ·exact Qc
  refine oc_ (i := 1) (N := some 33) (v := ?_) (a' := ?_) Qaw rfl rfl Qm Qd (Or.inl ⟨by rfl, ?_⟩) ?_ ?_
  rotate_left
  ·exact Qf
  rotate_left
  ·exact Qc
  refine oc_ (i := 3) (N := some 35) (v := ?_) (a' := ?_) Qax rfl rfl Qm Qd (Or.inl ⟨by rfl, ?_⟩) ?_ ?_
  rotate_left
  ·exact Qf
  rotate_left
  ·exact Qc
  refine oc_ (i := 4) (N := some 36) (v := ?_) (a' := ?_) Qay rfl rfl Qm Qd (Or.inl ⟨by rfl, ?_⟩) ?_ ?_
  rotate_left
  ·exact Qf
  rotate_left
  ·exact Qc
  refine oc_ (i := 7) (N := some 39) (v := ?_) (a' := ?_) Qaz rfl rfl Qm Qd (Or.inl ⟨by rfl, ?_⟩) ?_ ?_
  rotate_left
  ·exact Qf
  rotate_left
  ·exact Qc
  refine oc_ (i := 8) (N := some 40) (v := ?_) (a' := ?_) Qa0 rfl rfl Qm Qd (Or.inl ⟨by rfl, ?_⟩) ?_ ?_
  rotate_left
  ·exact Qf
  rotate_left
  ·exact Qc
  refine oc_ (i := 12) (N := some 44) (v := ?_) (a' := ?_) Qa1 rfl rfl Qm Qd (Or.inl ⟨by rfl, ?_⟩) ?_ ?_
  rotate_left
  ·exact Qf
  rotate_left
  ·exact Qc
  refine oc_ (i := 13) (N := some 45) (v := ?_) (a' := ?_) Qa2 rfl rfl Qm Qd (Or.inl ⟨by rfl, ?_⟩) ?_ ?_
  rotate_left
  ·exact Qf
  rotate_left
  ·exact Qc
  refine oc_ (i := 16) (N := some 48) (v := ?_) (a' := ?_) Qa4 rfl rfl Qm Qd (Or.inl ⟨by rfl, ?_⟩) ?_ ?_
  rotate_left
  ·exact Qf
  rotate_left
  ·exact Qc
  refine oc_ (i := 17) (N := some 49) (v := ?_) (a' := ?_) Qa5 rfl rfl Qm Qd (Or.inl ⟨by rfl, ?_⟩) ?_ ?_
  rotate_left
  ·exact Qf
  rotate_left
  ·exact Qc
  refine oc_ (i := 19) (N := some 51) (v := ?_) (a' := ?_) Qa6 rfl rfl Qm Qd (Or.inl ⟨by rfl, ?_⟩) ?_ ?_
  rotate_left
  ·exact Qf
  rotate_left
  ·exact Qc
  refine oc_ (i := 20) (N := some 52) (v := ?_) (a' := ?_) Qa7 rfl rfl Qm Qd (Or.inl ⟨by rfl, ?_⟩) ?_ ?_
  rotate_left
  ·exact Qf
  rotate_left
  ·exact Qc
  refine df_ (i := 2) (N := some 34) (v := ?_) (a' := ?_) Qa8 rfl rfl (ie_ HT_.out HW_.out Qb) Qd (Or.inl ⟨by rfl, ?_⟩) hHeld ?_ ?_
  rotate_left
  ·exact Qz
  rotate_left
  ·exact Qc
  refine df_ (i := 5) (N := some 37) (v := ?_) (a' := ?_) Qa9 rfl rfl (ie_ HT_.out HW_.out Qb) Qd (Or.inl ⟨by rfl, ?_⟩) hHeld ?_ ?_
  rotate_left
  ·exact Qz
  rotate_left
  ·exact Qc
  refine oc_ (i := 6) (N := some 38) (v := ?_) (a' := ?_) Qba rfl rfl Qm Qd (Or.inl ⟨by rfl, ?_⟩) ?_ ?_
  rotate_left
  ·exact Qf
  rotate_left
  ·exact Qc
  refine df_ (i := 9) (N := some 41) (v := ?_) (a' := ?_) Qbb rfl rfl (ie_ HT_.out HW_.out Qb) Qd (Or.inl ⟨by rfl, ?_⟩) hHeld ?_ ?_
  rotate_left
  ·exact Qz
  rotate_left
  ·exact Qc
  refine oc_ (i := 10) (N := some 42) (v := ?_) (a' := ?_) Qbc rfl rfl Qm Qd (Or.inl ⟨by rfl, ?_⟩) ?_ ?_
  rotate_left
  ·exact Qf
  rotate_left
  ·exact Qc
  refine oc_ (i := 11) (N := some 43) (v := ?_) (a' := ?_) Qbd rfl rfl Qm Qd (Or.inl ⟨by rfl, ?_⟩) ?_ ?_
  rotate_left
  ·exact Qf
  rotate_left
  ·exact Qc
  refine df_ (i := 14) (N := some 46) (v := ?_) (a' := ?_) Qbf rfl rfl (ie_ HT_.out HW_.out Qb) Qd (Or.inl ⟨by rfl, ?_⟩) hHeld ?_ ?_
  rotate_left
  ·exact Qz
  rotate_left
  ·exact Qc
  refine oc_ (i := 15) (N := some 47) (v := ?_) (a' := ?_) Qbg rfl rfl Qm Qd (Or.inl ⟨by rfl, ?_⟩) ?_ ?_
  rotate_left
  ·exact Qf
  rotate_left
  ·exact Qc
  refine df_ (i := 18) (N := some 50) (v := ?_) (a' := ?_) Qbh rfl rfl (ie_ HT_.out HW_.out Qb) Qd (Or.inl ⟨by rfl, ?_⟩) hHeld ?_ ?_
  rotate_left
  ·exact Qz
  rotate_left
  ·exact Qc
  refine df_ (i := 21) (N := some 53) (v := ?_) (a' := ?_) Qbi rfl rfl (ie_ HT_.out HW_.out Qb) Qd (Or.inl ⟨by rfl, ?_⟩) hHeld ?_ ?_
  rotate_left
  ·exact Qz
  rotate_left
  ·exact Qc
  refine oc_ (i := 22) (N := some 54) (v := ?_) (a' := ?_) Qbj rfl rfl Qm Qd (Or.inl ⟨by rfl, ?_⟩) ?_ ?_
  rotate_left
  ·exact Qf
  rotate_left
  ·exact Qc
  refine one_ (i := 23) (N := none) Qbk rfl rfl Xb Qh (fun K hK => ?_)
  have hs22 : w20.cell? ⟨gb172, 0, none⟩ = some (.int .i64 0) := (mb_ BK172.out 0).trans rfl
  have hfs22 := qa_ BK172.out 0
  have hs23 : w20.cell? ⟨gb172, 1, none⟩ = some (.int .i64 0) := (mb_ BK172.out 1).trans rfl
  have hfs23 := qa_ BK172.out 1
  have hs24 : w20.cell? ⟨gb172, 2, none⟩ = some (.int .i64 0) := (mb_ BK172.out 2).trans rfl
  have hfs24 := qa_ BK172.out 2
  have hs25 : w20.cell? ⟨gb172, 3, none⟩ = some (.int .i64 0) := (mb_ BK172.out 3).trans rfl
  have hfs25 := qa_ BK172.out 3
  refine xl_ (w1 := ?_) (by rfl) rfl ?_ ?_
  rotate_left
  ·go_simp
   rfl
  refine hK.out _ _ ⟨((cell_far (p := ⟨gb172, _, none⟩) Qu _).trans (((cell_far (p := ⟨gb172, _, none⟩) Qu _).trans (((cell_far (p := ⟨gb172, _, none⟩) Qu _).trans (((cell_far (p := ⟨gb172, _, none⟩) Qu _).trans (hHeld.1)))))))), ((cell_far (p := ⟨gb172, _, none⟩) Qu _).trans (((cell_far (p := ⟨gb172, _, none⟩) Qu _).trans (((cell_far (p := ⟨gb172, _, none⟩) Qu _).trans (((cell_far (p := ⟨gb172, _, none⟩) Qu _).trans (hHeld.2.1)))))))), ((cell_far (p := ⟨gb172, _, none⟩) Qu _).trans (((cell_far (p := ⟨gb172, _, none⟩) Qu _).trans (((cell_far (p := ⟨gb172, _, none⟩) Qu _).trans (((cell_far (p := ⟨gb172, _, none⟩) Qu _).trans (hHeld.2.2.1)))))))), ((cell_far (p := ⟨gb172, _, none⟩) Qu _).trans (((cell_far (p := ⟨gb172, _, none⟩) Qu _).trans (((cell_far (p := ⟨gb172, _, none⟩) Qu _).trans (((cell_far (p := ⟨gb172, _, none⟩) Qu _).trans (hHeld.2.2.2.1)))))))), ((cell_far (p := ⟨gb172, _, none⟩) Qu _).trans (((cell_far (p := ⟨gb172, _, none⟩) Qu _).trans (((cell_far (p := ⟨gb172, _, none⟩) Qu _).trans (((cell_far (p := ⟨gb172, _, none⟩) Qu _).trans (hHeld.2.2.2.2.1)))))))), ((cell_far (p := ⟨gb172, _, none⟩) Qu _).trans (((cell_far (p := ⟨gb172, _, none⟩) Qu _).trans (((cell_far (p := ⟨gb172, _, none⟩) Qu _).trans (((cell_far (p := ⟨gb172, _, none⟩) Qu _).trans (hHeld.2.2.2.2.2))))))))⟩ (fun hHeld => ?_)
  clear hK K
  refine jk_ Xw ?_
  have hcz26_0 : w20.cell? ⟨gb172, 0, none⟩ = some (.int .i64 0) := (mb_ BK172.out 0).trans rfl
  have hcz26_1 : w20.cell? ⟨gb172, 1, none⟩ = some (.int .i64 0) := (mb_ BK172.out 1).trans rfl
  have hcz26_2 : w20.cell? ⟨gb172, 2, none⟩ = some (.int .i64 0) := (mb_ BK172.out 2).trans rfl
  have hcz26_3 : w20.cell? ⟨gb172, 3, none⟩ = some (.int .i64 0) := (mb_ BK172.out 3).trans rfl
  have hfz26_0 := qa_ BK172.out 0
  have hfz26_1 := qa_ BK172.out 1
  have hfz26_2 := qa_ BK172.out 2
  have hfz26_3 := qa_ BK172.out 3
  try go_wp2_with (first | ((with_reducible refine ia_ (f := 47) rfl ?_); refine gc_ (some 56) rfl rfl Tryz.func47 Qb rfl #[.agg #[.int .i64 (rd t179 0), .int .i64 (wrap64 ((wrap64 ((wrap64 ((rd t179 1) * 1024)) + (wrap64 ((rd t179 2) * 32)))) + (rd t179 3))), .int .i64 (rd t179 4), .int .i64 (rd t179 5)]] rfl Qj ?_; (with_reducible refine (lj_.calls (rd t179 0) (wrap64 ((wrap64 ((wrap64 ((rd t179 1) * 1024)) + (wrap64 ((rd t179 2) * 32)))) + (rd t179 3))) (rd t179 4) (rd t179 5) true _ A13.out).mono ?_); rintro e w27 ⟨rfl, hb⟩; refine ⟨_, rfl, ?_⟩; have n0_ := ba_.mk (Kd.ne_ (by (with_reducible repeat (first | apply Kd.eb_ | apply Kd.fb_ | apply Kd.rb_)); exact (Kd.rd_ (Kd.jf_ (p := ⟨gb172, 3, none⟩) (Kd.jf_ (p := ⟨gb172, 2, none⟩) (Kd.jf_ (p := ⟨gb172, 1, none⟩) (Kd.jf_ (p := ⟨gb172, 0, none⟩) (Kd.th_ HO178.out BK172.out Qh) (fun _ hk => hk.2) (.int .i64 (rd t179 0))) (fun _ hk => hk.2) (.int .i64 (wrap64 ((wrap64 ((wrap64 ((rd t179 1) * 1024)) + (wrap64 ((rd t179 2) * 32)))) + (rd t179 3))))) (fun _ hk => hk.2) (.int .i64 (rd t179 4))) (fun _ hk => hk.2) (.int .i64 (rd t179 5))) (fun _ h_ => h_.1))) hb); have n1_ := ba_.mk (Kd.ne_ (by (with_reducible repeat (first | apply Kd.eb_ | apply Kd.fb_ | apply Kd.rb_)); exact (Kd.rd_ (Kd.jf_ (p := ⟨gb172, 3, none⟩) (Kd.jf_ (p := ⟨gb172, 2, none⟩) (Kd.jf_ (p := ⟨gb172, 1, none⟩) (Kd.jf_ (p := ⟨gb172, 0, none⟩) (Kd.th_ HO183.out BK172.out Qh) (fun _ hk => hk.2) (.int .i64 (rd t179 0))) (fun _ hk => hk.2) (.int .i64 (wrap64 ((wrap64 ((wrap64 ((rd t179 1) * 1024)) + (wrap64 ((rd t179 2) * 32)))) + (rd t179 3))))) (fun _ hk => hk.2) (.int .i64 (rd t179 4))) (fun _ hk => hk.2) (.int .i64 (rd t179 5))) (fun _ h_ => h_.1))) hb); have n2_ := ba_.mk (ed_ (g := gb172) (o := .cells #[.int .i64 (rd t179 0), .int .i64 (wrap64 ((wrap64 ((wrap64 ((rd t179 1) * 1024)) + (wrap64 ((rd t179 2) * 32)))) + (rd t179 3))), .int .i64 (rd t179 4), .int .i64 (rd t179 5)] 38 (0, 0)) (by (with_reducible repeat (first | refine db_ ?_ _ | refine pb_ ?_ | refine cb_ ?_ _)); refine od_ (cs := #[.int .i64 (rd t179 0), .int .i64 (wrap64 ((wrap64 ((wrap64 ((rd t179 1) * 1024)) + (wrap64 ((rd t179 2) * 32)))) + (rd t179 3))), .int .i64 (rd t179 4), .int .i64 0]) ?_ 3 _ rfl; (with_reducible repeat (first | refine db_ ?_ _ | refine pb_ ?_ | refine cb_ ?_ _)); refine od_ (cs := #[.int .i64 (rd t179 0), .int .i64 (wrap64 ((wrap64 ((wrap64 ((rd t179 1) * 1024)) + (wrap64 ((rd t179 2) * 32)))) + (rd t179 3))), .int .i64 0, .int .i64 0]) ?_ 2 _ rfl; (with_reducible repeat (first | refine db_ ?_ _ | refine pb_ ?_ | refine cb_ ?_ _)); refine od_ (cs := #[.int .i64 (rd t179 0), .int .i64 0, .int .i64 0, .int .i64 0]) ?_ 1 _ rfl; (with_reducible repeat (first | refine db_ ?_ _ | refine pb_ ?_ | refine cb_ ?_ _)); refine od_ (cs := #[.int .i64 0, .int .i64 0, .int .i64 0, .int .i64 0]) ?_ 0 _ rfl; (with_reducible repeat (first | refine db_ ?_ _ | refine pb_ ?_ | refine cb_ ?_ _)); exact BK172.out) hb); have n3_ := ba_.mk (wa_ Q6 hb); clear HO178; clear HO183; clear BK172; clear HB; have HO178 := n0_; have HO183 := n1_; have BK172 := n2_; have HB := n3_; clear n0_ n1_ n2_ n3_; (try clear hb); (try clear hb2); (try clear hk); (try clear hi); have hcz28_0 : w27.cell? ⟨gb172, 0, none⟩ = some (.int .i64 (rd t179 0)) := (mb_ BK172.out 0).trans rfl; have hcz28_1 : w27.cell? ⟨gb172, 1, none⟩ = some (.int .i64 (wrap64 ((wrap64 ((wrap64 ((rd t179 1) * 1024)) + (wrap64 ((rd t179 2) * 32)))) + (rd t179 3)))) := (mb_ BK172.out 1).trans rfl; have hcz28_2 : w27.cell? ⟨gb172, 2, none⟩ = some (.int .i64 (rd t179 4)) := (mb_ BK172.out 2).trans rfl; have hcz28_3 : w27.cell? ⟨gb172, 3, none⟩ = some (.int .i64 (rd t179 5)) := (mb_ BK172.out 3).trans rfl; have hfz28_0 := qa_ BK172.out 0; have hfz28_1 := qa_ BK172.out 1; have hfz28_2 := qa_ BK172.out 2; have hfz28_3 := qa_ BK172.out 3))
  refine bodyPost_ret (jg_ rfl _ _ gb172 38 #[.int .i64 (rd t179 0), .int .i64 (wrap64 ((wrap64 ((wrap64 ((rd t179 1) * 1024)) + (wrap64 ((rd t179 2) * 32)))) + (rd t179 3))), .int .i64 (rd t179 4), .int .i64 (rd t179 5)] (0, 0) _ rfl (by (with_reducible repeat (first | refine db_ ?_ _ | refine pb_ ?_ | refine cb_ ?_ _)); refine od_ (cs := #[.int .i64 (rd t179 0), .int .i64 (wrap64 ((wrap64 ((wrap64 ((rd t179 1) * 1024)) + (wrap64 ((rd t179 2) * 32)))) + (rd t179 3))), .int .i64 (rd t179 4), .int .i64 (rd t179 5)]) ?_ 3 _ rfl; (with_reducible repeat (first | refine db_ ?_ _ | refine pb_ ?_ | refine cb_ ?_ _)); refine od_ (cs := #[.int .i64 (rd t179 0), .int .i64 (wrap64 ((wrap64 ((wrap64 ((rd t179 1) * 1024)) + (wrap64 ((rd t179 2) * 32)))) + (rd t179 3))), .int .i64 (rd t179 4), .int .i64 (rd t179 5)]) ?_ 2 _ rfl; (with_reducible repeat (first | refine db_ ?_ _ | refine pb_ ?_ | refine cb_ ?_ _)); refine od_ (cs := #[.int .i64 (rd t179 0), .int .i64 (wrap64 ((wrap64 ((wrap64 ((rd t179 1) * 1024)) + (wrap64 ((rd t179 2) * 32)))) + (rd t179 3))), .int .i64 (rd t179 4), .int .i64 (rd t179 5)]) ?_ 1 _ rfl; (with_reducible repeat (first | refine db_ ?_ _ | refine pb_ ?_ | refine cb_ ?_ _)); refine od_ (cs := #[.int .i64 (rd t179 0), .int .i64 (wrap64 ((wrap64 ((wrap64 ((rd t179 1) * 1024)) + (wrap64 ((rd t179 2) * 32)))) + (rd t179 3))), .int .i64 (rd t179 4), .int .i64 (rd t179 5)]) ?_ 0 _ rfl; (with_reducible repeat (first | refine db_ ?_ _ | refine pb_ ?_ | refine cb_ ?_ _)); exact BK172.out) Tryz.underlying38 rfl Qb) rfl ?_
  exact ⟨Qq, Q6⟩
 replace c14 := Bool.eq_false_iff.mpr c14
 subst c14
 have H1 : (some (0, 0, 0, 0, 0, 2)) = some (r1, r2, r3, r4, r5, r6) := by rw [if_neg (show ¬ (false = true) by decide)] at H; exact H
 clear H
 have H := H1
 clear H1
 simp only [Option.some.injEq, Prod.mk.injEq] at H
 obtain ⟨rfl, rfl, rfl, rfl, rfl, rfl⟩ := H
 go_enter Tryz.func15, Tryz.ntmps15
 try go_wp2_with (first | ((with_reducible refine md_ (N := 2) rfl ?_); refine fe_ ?hg (N := 2) ?hd (cs := #[.int .i64 0, .int .i64 0, .int .i64 0, .int .i64 0]) (t := 38) ?hr ?_; (case hd => rfl); (case hg => rfl); (case hr => exact Qt); intro gb172 hg w29 hbox hb; have n0_ := ba_.mk (wa_ Qe hb); have n1_ := ba_.mk (hbox); have n2_ := ba_.mk ((by rw [hg]; exact (za_ Qe) : w.heap.size ≤ gb172)); have n3_ := ba_.mk ((by rw [hg]; exact (za_ Qe) : w.heap.size ≤ gb172)); clear HB; have HB := n0_; have BK172 := n1_; have GW172 := n2_; have GE172 := n3_; clear n0_ n1_ n2_ n3_; clear hb hbox hg) | ((with_reducible refine ia_ (f := 25) rfl ?_); refine gc_ (some 10) rfl rfl Tryz.func25 Qb rfl #[.string a0] rfl Qj ?_; (with_reducible refine (cf_.calls a0 t173 t174 _ A2.out).mono ?_); rintro e w30 ⟨rfl, hb⟩; refine ⟨_, rfl, ?_⟩; have n0_ := ba_.mk (ed_ (g := gb172) (o := .cells #[.int .i64 0, .int .i64 0, .int .i64 0, .int .i64 0] 38 (0, 0)) (Qr BK172.out) hb); have n1_ := ba_.mk (wa_ Q6 hb); clear BK172; clear HB; have BK172 := n0_; have HB := n1_; clear n0_ n1_; (try clear hb); (try clear hb2); (try clear hk); (try clear hi)) | ((with_reducible refine ia_ (f := 12) rfl ?_); refine gc_ (some 19) rfl rfl Tryz.func12 Qb rfl #[.string t173] rfl Qj ?_; (with_reducible refine (sj_.calls t173 t175 t176 _ A4.out).mono ?_); rintro e w31 ⟨v177, rfl, ho0, hb⟩; refine ⟨_, rfl, ?_⟩; have n0_ := ba_.mk (Kd.td_ ho0 (za_ Q6)); have n1_ := ba_.mk (ed_ (g := gb172) (o := .cells #[.int .i64 0, .int .i64 0, .int .i64 0, .int .i64 0] 38 (0, 0)) (Qr BK172.out) hb); have n2_ := ba_.mk (wa_ Q6 hb); clear BK172; clear HB; have HO178 := n0_; have BK172 := n1_; have HB := n2_; clear n0_ n1_ n2_; (try clear hb); (try clear hb2); (try clear hk); (try clear hi); (try clear ho0); obtain ⟨Ao32, co32, eo32⟩ := Kd.pd_ HO178.out; subst eo32) | ((with_reducible refine ia_ (f := 46) rfl ?_); refine gc_ (some 24) rfl rfl Tryz.func46 Qb rfl #[.slice Ao32 t175.length co32] rfl Qj ?_; (with_reducible refine (tn_.calls _ _ t175 t179 t180 t181 _ ?side1 ?side2 A5.out).mono ?_); (case side1 => repeat (first | exact (Kd.cc_ HO178.out).2.2 | (with_reducible refine Kd.gd_ ?_ _) | (with_reducible refine Kd.hd_ ?_ _) | (with_reducible refine Kd.yd_ ?_))); (case side2 => exact (Kd.cc_ HO178.out).2.1); rintro e w33 ⟨v182, rfl, ho0, hb⟩; refine ⟨_, rfl, ?_⟩; have n0_ := ba_.mk (Kd.ke_ (Ql HO178.out) (Kd.if_ ho0) hb); have n1_ := ba_.mk (Kd.td_ (Kd.hf_ ho0 (Kd.R_lt (Ql HO178.out))) (za_ Q6)); have n2_ := ba_.mk (ed_ (g := gb172) (o := .cells #[.int .i64 0, .int .i64 0, .int .i64 0, .int .i64 0] 38 (0, 0)) (Qr BK172.out) hb); have n3_ := ba_.mk (wa_ Q6 hb); clear HO178; clear BK172; clear HB; have HO178 := n0_; have HO183 := n1_; have BK172 := n2_; have HB := n3_; clear n0_ n1_ n2_ n3_; (try clear hb); (try clear hb2); (try clear hk); (try clear hi); (try clear ho0)))
 have n0_ := ba_.mk (Kd.rb_ HO178.out)
 have n1_ := ba_.mk (Kd.rb_ HO183.out)
 have n2_ := ba_.mk (pb_ BK172.out)
 have n3_ := ba_.mk (ca_ HB.out)
 clear HO178
 clear HO183
 clear BK172
 clear HB
 have HO178 := n0_
 have HO183 := n1_
 have BK172 := n2_
 have HB := n3_
 clear n0_ n1_ n2_ n3_
 obtain ⟨Ao35, co35, eo35⟩ := Kd.pd_ HO183.out
 (first | subst eo35 | (injection eo35 with f1_ f2_ f3_; have f4_ := f1_.symm; have f5_ := f3_.symm; clear f1_ f2_ f3_; subst f4_; subst f5_))
 have p184 : 0 ≤ (0 : Int) := Qa
 have q184 : 0 < (t179.length : Int) := of_decide_eq_true Qg
 obtain ⟨ad184, e184, hx184_0⟩ := Kd.sd_ (Kd.cc_ HO183.out).2.2 0 p184 q184
 cases e184
 have qi184 : (0 < t179.length) = True := eq_true Qa
 (try rw [show ((0 : Int)).toNat = 0 from rfl] at hx184_0)
 (try rw [Addr.add_zero'] at hx184_0)
 replace p184 := eq_true p184
 replace q184 := eq_true q184
 have p185 : 0 ≤ (1 : Int) := Qa
 have q185 : 1 < (t179.length : Int) := of_decide_eq_true Qg
 obtain ⟨ad185, e185, hx185_0⟩ := Kd.sd_ (Kd.cc_ HO183.out).2.2 1 p185 q185
 obtain rfl : ad184 = ad185 := (by injection e185)
 (try simp only [show (1 : Int).toNat = 1 from rfl, Nat.reduceMul, Nat.reduceEqDiff, Go.Addr.add, ↓reduceIte] at hx185_0)
 have qi185 : (1 < t179.length) = True := eq_true Qa
 (try rw [show ((1 : Int)).toNat = 1 from rfl] at hx185_0)
 replace p185 := eq_true p185
 replace q185 := eq_true q185
 have p186 : 0 ≤ (2 : Int) := Qa
 have q186 : 2 < (t179.length : Int) := of_decide_eq_true Qg
 obtain ⟨ad186, e186, hx186_0⟩ := Kd.sd_ (Kd.cc_ HO183.out).2.2 2 p186 q186
 obtain rfl : ad184 = ad186 := (by injection e186)
 (try simp only [show (2 : Int).toNat = 2 from rfl, Nat.reduceMul, Nat.reduceEqDiff, Go.Addr.add, ↓reduceIte] at hx186_0)
 have qi186 : (2 < t179.length) = True := eq_true Qa
 (try rw [show ((2 : Int)).toNat = 2 from rfl] at hx186_0)
 replace p186 := eq_true p186
 replace q186 := eq_true q186
 have p187 : 0 ≤ (3 : Int) := Qa
 have q187 : 3 < (t179.length : Int) := of_decide_eq_true Qg
 obtain ⟨ad187, e187, hx187_0⟩ := Kd.sd_ (Kd.cc_ HO183.out).2.2 3 p187 q187
 obtain rfl : ad184 = ad187 := (by injection e187)
 (try simp only [show (3 : Int).toNat = 3 from rfl, Nat.reduceMul, Nat.reduceEqDiff, Go.Addr.add, ↓reduceIte] at hx187_0)
 have qi187 : (3 < t179.length) = True := eq_true Qa
 (try rw [show ((3 : Int)).toNat = 3 from rfl] at hx187_0)
 replace p187 := eq_true p187
 replace q187 := eq_true q187
 have p188 : 0 ≤ (4 : Int) := Qa
 have q188 : 4 < (t179.length : Int) := of_decide_eq_true Qg
 obtain ⟨ad188, e188, hx188_0⟩ := Kd.sd_ (Kd.cc_ HO183.out).2.2 4 p188 q188
 obtain rfl : ad184 = ad188 := (by injection e188)
 (try simp only [show (4 : Int).toNat = 4 from rfl, Nat.reduceMul, Nat.reduceEqDiff, Go.Addr.add, ↓reduceIte] at hx188_0)
 have qi188 : (4 < t179.length) = True := eq_true Qa
 (try rw [show ((4 : Int)).toNat = 4 from rfl] at hx188_0)
 replace p188 := eq_true p188
 replace q188 := eq_true q188
 have p189 : 0 ≤ (5 : Int) := Qa
 have q189 : 5 < (t179.length : Int) := of_decide_eq_true Qg
 obtain ⟨ad189, e189, hx189_0⟩ := Kd.sd_ (Kd.cc_ HO183.out).2.2 5 p189 q189
 obtain rfl : ad184 = ad189 := (by injection e189)
 (try simp only [show (5 : Int).toNat = 5 from rfl, Nat.reduceMul, Nat.reduceEqDiff, Go.Addr.add, ↓reduceIte] at hx189_0)
 have qi189 : (5 < t179.length) = True := eq_true Qa
 (try rw [show ((5 : Int)).toNat = 5 from rfl] at hx189_0)
 replace p189 := eq_true p189
 replace q189 := eq_true q189
 refine kh_ (n := 24) (S := fun w' => w'.cell? ad184 = some (.int .i64 (rd t179 0)) ∧ w'.cell? ⟨ad184.block, ad184.off + 1, none⟩ = some (.int .i64 (rd t179 1)) ∧ w'.cell? ⟨ad184.block, ad184.off + 2, none⟩ = some (.int .i64 (rd t179 2)) ∧ w'.cell? ⟨ad184.block, ad184.off + 3, none⟩ = some (.int .i64 (rd t179 3)) ∧ w'.cell? ⟨ad184.block, ad184.off + 4, none⟩ = some (.int .i64 (rd t179 4)) ∧ w'.cell? ⟨ad184.block, ad184.off + 5, none⟩ = some (.int .i64 (rd t179 5))) (ds := []) Qau Qb rfl rfl ⟨hx184_0, hx185_0, hx186_0, hx187_0, hx188_0, hx189_0⟩ (fun hHeld => ?_); refine lh_ ee_.tab8 ee_.kv_ (fun HT_ HW_ => ?_)
 generalize w33.drew = w34 at HO178 HO183 BK172 HB hx184_0 hx185_0 hx186_0 hx187_0 hx188_0 hx189_0 hHeld ⊢
 refine oc_ (i := 0) (N := some 32) (v := ?_) (a' := ?_) Qav rfl rfl Qm Qd (Or.inl ⟨by rfl, ?_⟩) ?_ ?_
 rotate_left
 ·exact Qf
 rotate_left
 ·exact Qc
 refine oc_ (i := 1) (N := some 33) (v := ?_) (a' := ?_) Qaw rfl rfl Qm Qd (Or.inl ⟨by rfl, ?_⟩) ?_ ?_
 rotate_left
 ·exact Qf
 rotate_left
 ·exact Qc
 refine oc_ (i := 3) (N := some 35) (v := ?_) (a' := ?_) Qax rfl rfl Qm Qd (Or.inl ⟨by rfl, ?_⟩) ?_ ?_
 rotate_left
 ·exact Qf
 rotate_left
 ·exact Qc
 refine oc_ (i := 4) (N := some 36) (v := ?_) (a' := ?_) Qay rfl rfl Qm Qd (Or.inl ⟨by rfl, ?_⟩) ?_ ?_
 rotate_left
 ·exact Qf
 rotate_left
 ·exact Qc
 refine oc_ (i := 7) (N := some 39) (v := ?_) (a' := ?_) Qaz rfl rfl Qm Qd (Or.inl ⟨by rfl, ?_⟩) ?_ ?_
 rotate_left
 ·exact Qf
 rotate_left
 ·exact Qc
 refine oc_ (i := 8) (N := some 40) (v := ?_) (a' := ?_) Qa0 rfl rfl Qm Qd (Or.inl ⟨by rfl, ?_⟩) ?_ ?_
 rotate_left
 ·exact Qf
 rotate_left
 ·exact Qc
 refine oc_ (i := 12) (N := some 44) (v := ?_) (a' := ?_) Qa1 rfl rfl Qm Qd (Or.inl ⟨by rfl, ?_⟩) ?_ ?_
 rotate_left
 ·exact Qf
 rotate_left
 ·exact Qc
 refine oc_ (i := 13) (N := some 45) (v := ?_) (a' := ?_) Qa2 rfl rfl Qm Qd (Or.inl ⟨by rfl, ?_⟩) ?_ ?_
 rotate_left
 ·exact Qf
 rotate_left
 ·exact Qc
 refine oc_ (i := 16) (N := some 48) (v := ?_) (a' := ?_) Qa4 rfl rfl Qm Qd (Or.inl ⟨by rfl, ?_⟩) ?_ ?_
 rotate_left
 ·exact Qf
 rotate_left
 ·exact Qc
 refine oc_ (i := 17) (N := some 49) (v := ?_) (a' := ?_) Qa5 rfl rfl Qm Qd (Or.inl ⟨by rfl, ?_⟩) ?_ ?_
 rotate_left
 ·exact Qf
 rotate_left
 ·exact Qc
 refine oc_ (i := 19) (N := some 51) (v := ?_) (a' := ?_) Qa6 rfl rfl Qm Qd (Or.inl ⟨by rfl, ?_⟩) ?_ ?_
 rotate_left
 ·exact Qf
 rotate_left
 ·exact Qc
 refine oc_ (i := 20) (N := some 52) (v := ?_) (a' := ?_) Qa7 rfl rfl Qm Qd (Or.inl ⟨by rfl, ?_⟩) ?_ ?_
 rotate_left
 ·exact Qf
 rotate_left
 ·exact Qc
 refine df_ (i := 2) (N := some 34) (v := ?_) (a' := ?_) Qa8 rfl rfl (ie_ HT_.out HW_.out Qb) Qd (Or.inl ⟨by rfl, ?_⟩) hHeld ?_ ?_
 rotate_left
 ·exact Qz
 rotate_left
 ·exact Qc
 refine df_ (i := 5) (N := some 37) (v := ?_) (a' := ?_) Qa9 rfl rfl (ie_ HT_.out HW_.out Qb) Qd (Or.inl ⟨by rfl, ?_⟩) hHeld ?_ ?_
 rotate_left
 ·exact Qz
 rotate_left
 ·exact Qc
 refine oc_ (i := 6) (N := some 38) (v := ?_) (a' := ?_) Qba rfl rfl Qm Qd (Or.inl ⟨by rfl, ?_⟩) ?_ ?_
 rotate_left
 ·exact Qf
 rotate_left
 ·exact Qc
 refine df_ (i := 9) (N := some 41) (v := ?_) (a' := ?_) Qbb rfl rfl (ie_ HT_.out HW_.out Qb) Qd (Or.inl ⟨by rfl, ?_⟩) hHeld ?_ ?_
 rotate_left
 ·exact Qz
 rotate_left
 ·exact Qc
 refine oc_ (i := 10) (N := some 42) (v := ?_) (a' := ?_) Qbc rfl rfl Qm Qd (Or.inl ⟨by rfl, ?_⟩) ?_ ?_
 rotate_left
 ·exact Qf
 rotate_left
 ·exact Qc
 refine oc_ (i := 11) (N := some 43) (v := ?_) (a' := ?_) Qbd rfl rfl Qm Qd (Or.inl ⟨by rfl, ?_⟩) ?_ ?_
 rotate_left
 ·exact Qf
 rotate_left
 ·exact Qc
 refine df_ (i := 14) (N := some 46) (v := ?_) (a' := ?_) Qbf rfl rfl (ie_ HT_.out HW_.out Qb) Qd (Or.inl ⟨by rfl, ?_⟩) hHeld ?_ ?_
 rotate_left
 ·exact Qz
 rotate_left
 ·exact Qc
 refine oc_ (i := 15) (N := some 47) (v := ?_) (a' := ?_) Qbg rfl rfl Qm Qd (Or.inl ⟨by rfl, ?_⟩) ?_ ?_
 rotate_left
 ·exact Qf
 rotate_left
 ·exact Qc
 refine df_ (i := 18) (N := some 50) (v := ?_) (a' := ?_) Qbh rfl rfl (ie_ HT_.out HW_.out Qb) Qd (Or.inl ⟨by rfl, ?_⟩) hHeld ?_ ?_
 rotate_left
 ·exact Qz
 rotate_left
 ·exact Qc
 refine df_ (i := 21) (N := some 53) (v := ?_) (a' := ?_) Qbi rfl rfl (ie_ HT_.out HW_.out Qb) Qd (Or.inl ⟨by rfl, ?_⟩) hHeld ?_ ?_
 rotate_left
 ·exact Qz
 rotate_left
 ·exact Qc
 refine oc_ (i := 22) (N := some 54) (v := ?_) (a' := ?_) Qbj rfl rfl Qm Qd (Or.inl ⟨by rfl, ?_⟩) ?_ ?_
 rotate_left
 ·exact Qf
 rotate_left
 ·exact Qc
 refine one_ (i := 23) (N := none) Qbk rfl rfl Xb Qh (fun K hK => ?_)
 have hs36 : w34.cell? ⟨gb172, 0, none⟩ = some (.int .i64 0) := (mb_ BK172.out 0).trans rfl
 have hfs36 := qa_ BK172.out 0
 have hs37 : w34.cell? ⟨gb172, 1, none⟩ = some (.int .i64 0) := (mb_ BK172.out 1).trans rfl
 have hfs37 := qa_ BK172.out 1
 have hs38 : w34.cell? ⟨gb172, 2, none⟩ = some (.int .i64 0) := (mb_ BK172.out 2).trans rfl
 have hfs38 := qa_ BK172.out 2
 have hs39 : w34.cell? ⟨gb172, 3, none⟩ = some (.int .i64 0) := (mb_ BK172.out 3).trans rfl
 have hfs39 := qa_ BK172.out 3
 refine xl_ (w1 := ?_) (by rfl) rfl ?_ ?_
 rotate_left
 ·go_simp
  rfl
 refine hK.out _ _ ⟨((cell_far (p := ⟨gb172, _, none⟩) Qu _).trans (((cell_far (p := ⟨gb172, _, none⟩) Qu _).trans (((cell_far (p := ⟨gb172, _, none⟩) Qu _).trans (((cell_far (p := ⟨gb172, _, none⟩) Qu _).trans (hHeld.1)))))))), ((cell_far (p := ⟨gb172, _, none⟩) Qu _).trans (((cell_far (p := ⟨gb172, _, none⟩) Qu _).trans (((cell_far (p := ⟨gb172, _, none⟩) Qu _).trans (((cell_far (p := ⟨gb172, _, none⟩) Qu _).trans (hHeld.2.1)))))))), ((cell_far (p := ⟨gb172, _, none⟩) Qu _).trans (((cell_far (p := ⟨gb172, _, none⟩) Qu _).trans (((cell_far (p := ⟨gb172, _, none⟩) Qu _).trans (((cell_far (p := ⟨gb172, _, none⟩) Qu _).trans (hHeld.2.2.1)))))))), ((cell_far (p := ⟨gb172, _, none⟩) Qu _).trans (((cell_far (p := ⟨gb172, _, none⟩) Qu _).trans (((cell_far (p := ⟨gb172, _, none⟩) Qu _).trans (((cell_far (p := ⟨gb172, _, none⟩) Qu _).trans (hHeld.2.2.2.1)))))))), ((cell_far (p := ⟨gb172, _, none⟩) Qu _).trans (((cell_far (p := ⟨gb172, _, none⟩) Qu _).trans (((cell_far (p := ⟨gb172, _, none⟩) Qu _).trans (((cell_far (p := ⟨gb172, _, none⟩) Qu _).trans (hHeld.2.2.2.2.1)))))))), ((cell_far (p := ⟨gb172, _, none⟩) Qu _).trans (((cell_far (p := ⟨gb172, _, none⟩) Qu _).trans (((cell_far (p := ⟨gb172, _, none⟩) Qu _).trans (((cell_far (p := ⟨gb172, _, none⟩) Qu _).trans (hHeld.2.2.2.2.2))))))))⟩ (fun hHeld => ?_)
 clear hK K
 refine jk_ Xw ?_
 have hcz40_0 : w34.cell? ⟨gb172, 0, none⟩ = some (.int .i64 0) := (mb_ BK172.out 0).trans rfl
 have hcz40_1 : w34.cell? ⟨gb172, 1, none⟩ = some (.int .i64 0) := (mb_ BK172.out 1).trans rfl
 have hcz40_2 : w34.cell? ⟨gb172, 2, none⟩ = some (.int .i64 0) := (mb_ BK172.out 2).trans rfl
 have hcz40_3 : w34.cell? ⟨gb172, 3, none⟩ = some (.int .i64 0) := (mb_ BK172.out 3).trans rfl
 have hfz40_0 := qa_ BK172.out 0
 have hfz40_1 := qa_ BK172.out 1
 have hfz40_2 := qa_ BK172.out 2
 have hfz40_3 := qa_ BK172.out 3
 try go_wp2_with (first | ((with_reducible refine ia_ (f := 47) rfl ?_); refine gc_ (some 56) rfl rfl Tryz.func47 Qb rfl #[.agg #[.int .i64 (rd t179 0), .int .i64 (wrap64 ((wrap64 ((wrap64 ((rd t179 1) * 1024)) + (wrap64 ((rd t179 2) * 32)))) + (rd t179 3))), .int .i64 (rd t179 4), .int .i64 (rd t179 5)]] rfl Qj ?_; (with_reducible refine (lj_.calls (rd t179 0) (wrap64 ((wrap64 ((wrap64 ((rd t179 1) * 1024)) + (wrap64 ((rd t179 2) * 32)))) + (rd t179 3))) (rd t179 4) (rd t179 5) false _ A13.out).mono ?_); rintro e w41 ⟨rfl, hb⟩; refine ⟨_, rfl, ?_⟩; have n0_ := ba_.mk (Kd.ne_ (by (with_reducible repeat (first | apply Kd.eb_ | apply Kd.fb_ | apply Kd.rb_)); exact (Kd.rd_ (Kd.jf_ (p := ⟨gb172, 3, none⟩) (Kd.jf_ (p := ⟨gb172, 2, none⟩) (Kd.jf_ (p := ⟨gb172, 1, none⟩) (Kd.jf_ (p := ⟨gb172, 0, none⟩) (Kd.th_ HO178.out BK172.out Qh) (fun _ hk => hk.2) (.int .i64 (rd t179 0))) (fun _ hk => hk.2) (.int .i64 (wrap64 ((wrap64 ((wrap64 ((rd t179 1) * 1024)) + (wrap64 ((rd t179 2) * 32)))) + (rd t179 3))))) (fun _ hk => hk.2) (.int .i64 (rd t179 4))) (fun _ hk => hk.2) (.int .i64 (rd t179 5))) (fun _ h_ => h_.1))) hb); have n1_ := ba_.mk (Kd.ne_ (by (with_reducible repeat (first | apply Kd.eb_ | apply Kd.fb_ | apply Kd.rb_)); exact (Kd.rd_ (Kd.jf_ (p := ⟨gb172, 3, none⟩) (Kd.jf_ (p := ⟨gb172, 2, none⟩) (Kd.jf_ (p := ⟨gb172, 1, none⟩) (Kd.jf_ (p := ⟨gb172, 0, none⟩) (Kd.th_ HO183.out BK172.out Qh) (fun _ hk => hk.2) (.int .i64 (rd t179 0))) (fun _ hk => hk.2) (.int .i64 (wrap64 ((wrap64 ((wrap64 ((rd t179 1) * 1024)) + (wrap64 ((rd t179 2) * 32)))) + (rd t179 3))))) (fun _ hk => hk.2) (.int .i64 (rd t179 4))) (fun _ hk => hk.2) (.int .i64 (rd t179 5))) (fun _ h_ => h_.1))) hb); have n2_ := ba_.mk (ed_ (g := gb172) (o := .cells #[.int .i64 (rd t179 0), .int .i64 (wrap64 ((wrap64 ((wrap64 ((rd t179 1) * 1024)) + (wrap64 ((rd t179 2) * 32)))) + (rd t179 3))), .int .i64 (rd t179 4), .int .i64 (rd t179 5)] 38 (0, 0)) (by (with_reducible repeat (first | refine db_ ?_ _ | refine pb_ ?_ | refine cb_ ?_ _)); refine od_ (cs := #[.int .i64 (rd t179 0), .int .i64 (wrap64 ((wrap64 ((wrap64 ((rd t179 1) * 1024)) + (wrap64 ((rd t179 2) * 32)))) + (rd t179 3))), .int .i64 (rd t179 4), .int .i64 0]) ?_ 3 _ rfl; (with_reducible repeat (first | refine db_ ?_ _ | refine pb_ ?_ | refine cb_ ?_ _)); refine od_ (cs := #[.int .i64 (rd t179 0), .int .i64 (wrap64 ((wrap64 ((wrap64 ((rd t179 1) * 1024)) + (wrap64 ((rd t179 2) * 32)))) + (rd t179 3))), .int .i64 0, .int .i64 0]) ?_ 2 _ rfl; (with_reducible repeat (first | refine db_ ?_ _ | refine pb_ ?_ | refine cb_ ?_ _)); refine od_ (cs := #[.int .i64 (rd t179 0), .int .i64 0, .int .i64 0, .int .i64 0]) ?_ 1 _ rfl; (with_reducible repeat (first | refine db_ ?_ _ | refine pb_ ?_ | refine cb_ ?_ _)); refine od_ (cs := #[.int .i64 0, .int .i64 0, .int .i64 0, .int .i64 0]) ?_ 0 _ rfl; (with_reducible repeat (first | refine db_ ?_ _ | refine pb_ ?_ | refine cb_ ?_ _)); exact BK172.out) hb); have n3_ := ba_.mk (wa_ Q6 hb); clear HO178; clear HO183; clear BK172; clear HB; have HO178 := n0_; have HO183 := n1_; have BK172 := n2_; have HB := n3_; clear n0_ n1_ n2_ n3_; (try clear hb); (try clear hb2); (try clear hk); (try clear hi); have hcz42_0 : w41.cell? ⟨gb172, 0, none⟩ = some (.int .i64 (rd t179 0)) := (mb_ BK172.out 0).trans rfl; have hcz42_1 : w41.cell? ⟨gb172, 1, none⟩ = some (.int .i64 (wrap64 ((wrap64 ((wrap64 ((rd t179 1) * 1024)) + (wrap64 ((rd t179 2) * 32)))) + (rd t179 3)))) := (mb_ BK172.out 1).trans rfl; have hcz42_2 : w41.cell? ⟨gb172, 2, none⟩ = some (.int .i64 (rd t179 4)) := (mb_ BK172.out 2).trans rfl; have hcz42_3 : w41.cell? ⟨gb172, 3, none⟩ = some (.int .i64 (rd t179 5)) := (mb_ BK172.out 3).trans rfl; have hfz42_0 := qa_ BK172.out 0; have hfz42_1 := qa_ BK172.out 1; have hfz42_2 := qa_ BK172.out 2; have hfz42_3 := qa_ BK172.out 3))
 refine bodyPost_ret (jg_ rfl _ _ gb172 38 #[.int .i64 0, .int .i64 0, .int .i64 0, .int .i64 0] (0, 0) _ rfl (by (with_reducible repeat (first | refine db_ ?_ _ | refine pb_ ?_ | refine cb_ ?_ _)); refine od_ (cs := #[.int .i64 0, .int .i64 0, .int .i64 0, .int .i64 (rd t179 5)]) ?_ 3 _ rfl; (with_reducible repeat (first | refine db_ ?_ _ | refine pb_ ?_ | refine cb_ ?_ _)); refine od_ (cs := #[.int .i64 0, .int .i64 0, .int .i64 (rd t179 4), .int .i64 (rd t179 5)]) ?_ 2 _ rfl; (with_reducible repeat (first | refine db_ ?_ _ | refine pb_ ?_ | refine cb_ ?_ _)); refine od_ (cs := #[.int .i64 0, .int .i64 (wrap64 ((wrap64 ((wrap64 ((rd t179 1) * 1024)) + (wrap64 ((rd t179 2) * 32)))) + (rd t179 3))), .int .i64 (rd t179 4), .int .i64 (rd t179 5)]) ?_ 1 _ rfl; (with_reducible repeat (first | refine db_ ?_ _ | refine pb_ ?_ | refine cb_ ?_ _)); refine od_ (cs := #[.int .i64 (rd t179 0), .int .i64 (wrap64 ((wrap64 ((wrap64 ((rd t179 1) * 1024)) + (wrap64 ((rd t179 2) * 32)))) + (rd t179 3))), .int .i64 (rd t179 4), .int .i64 (rd t179 5)]) ?_ 0 _ rfl; (with_reducible repeat (first | refine db_ ?_ _ | refine pb_ ?_ | refine cb_ ?_ _)); exact BK172.out) Tryz.underlying38 rfl Qb) rfl ?_
 exact ⟨Qq, Q6⟩
def pe_.f  : Option (Bool) := (sh_.f 3 9999 2 1).bind fun bt192 => ((ni_.f bt192.1).bind fun t194 => ((ee_.f t194).bind fun bt195 => ((sh_.f 0 0 0 0).bind fun bt202 => (if bt192.2 = 0 then (if (bt192.1.size : Int) = 74 then (if bt195.2.2.2.2.2 = 0 then (if bt195.2.2.2.2.1 = 0 then (if (bt195.1 == 3 && (bt195.2.1 == 9999 && (bt195.2.2.1 == 2 && (bt195.2.2.2.1 == 1)))) = true then (if bt202.2 = 0 then (if (bt202.1.size : Int) = 74 then (if 0 ≤ 8 then (if 8 ≤ (bt202.1.size : Int) then (some ((bt202.1.extract 0 8).toList == ([49, 49, 49, 49, 49, 49, 49, 48] : List UInt8))) else (none)) else (none)) else (some false)) else (some false)) else (some false)) else (some false)) else (some false)) else (some false)) else (some false)))))
set_option maxHeartbeats 8000000 in
set_option maxRecDepth 100000 in
theorem pe_.calls  (r : Bool) (w : World) (h : pe_.f  = some r) (hr_ : r = true) :
  Calls Tryz.prog 22 #[] w fun e w' => e = .returned (.bool r) ∧ Below w.heap.size w w' := by
 have HRT := ba_.mk hr_
 clear hr_
 have hu38 := Tryz.underlying38
 have HB := ba_.mk (Below.refl w.heap.size w)
 have H : ((sh_.f 3 9999 2 1).bind fun bt192 => ((ni_.f bt192.1).bind fun t194 => ((ee_.f t194).bind fun bt195 => ((sh_.f 0 0 0 0).bind fun bt202 => (if bt192.2 = 0 then (if (bt192.1.size : Int) = 74 then (if bt195.2.2.2.2.2 = 0 then (if bt195.2.2.2.2.1 = 0 then (if (bt195.1 == 3 && (bt195.2.1 == 9999 && (bt195.2.2.1 == 2 && (bt195.2.2.2.1 == 1)))) = true then (if bt202.2 = 0 then (if (bt202.1.size : Int) = 74 then (if 0 ≤ 8 then (if 8 ≤ (bt202.1.size : Int) then (some ((bt202.1.extract 0 8).toList == ([49, 49, 49, 49, 49, 49, 49, 48] : List UInt8))) else (none)) else (none)) else (some false)) else (some false)) else (some false)) else (some false)) else (some false)) else (some false)) else (some false)))))) = some r := h
 clear h
 obtain ⟨⟨t192, t193⟩, A1, H⟩ := Qk H
 try dsimp only at H
 obtain ⟨t194, A2, H⟩ := Qk H
 try dsimp only at H
 obtain ⟨⟨t195, t196, t197, t198, t199, t200⟩, A3, H⟩ := Qk H
 try dsimp only at H
 obtain ⟨⟨t202, t203⟩, A4, H⟩ := Qk H
 try dsimp only at H
 by_cases c5 : t193 = 0
 rotate_left
 ·rw [if_neg c5] at H
  have c5b0 : (t193 == 0) = false := beq_eq_false_iff_ne.mpr c5
  have c5b1 : (t193 != 0) = true := bne_iff_ne.mpr c5
  exact absurd ((Option.some.inj H).trans HRT.out) Qh
 rw [if_pos c5] at H
 have c5b0 : (t193 == 0) = true := beq_iff_eq.mpr c5
 have c5b1 : (t193 != 0) = false := bne_eq_false_iff_eq.mpr c5
 clear c5
 by_cases c6 : (t192.size : Int) = 74
 rotate_left
 ·rw [if_neg c6] at H
  have c6b0 : ((t192.size : Int) == 74) = false := beq_eq_false_iff_ne.mpr c6
  have c6b1 : ((t192.size : Int) != 74) = true := bne_iff_ne.mpr c6
  exact absurd ((Option.some.inj H).trans HRT.out) Qh
 rw [if_pos c6] at H
 have c6b0 : ((t192.size : Int) == 74) = true := beq_iff_eq.mpr c6
 have c6b1 : ((t192.size : Int) != 74) = false := bne_eq_false_iff_eq.mpr c6
 clear c6
 by_cases c7 : t200 = 0
 rotate_left
 ·rw [if_neg c7] at H
  have c7b0 : (t200 == 0) = false := beq_eq_false_iff_ne.mpr c7
  have c7b1 : (t200 != 0) = true := bne_iff_ne.mpr c7
  exact absurd ((Option.some.inj H).trans HRT.out) Qh
 rw [if_pos c7] at H
 have c7b0 : (t200 == 0) = true := beq_iff_eq.mpr c7
 have c7b1 : (t200 != 0) = false := bne_eq_false_iff_eq.mpr c7
 clear c7
 by_cases c8 : t199 = 0
 rotate_left
 ·rw [if_neg c8] at H
  have c8b0 : (t199 == 0) = false := beq_eq_false_iff_ne.mpr c8
  have c8b1 : (t199 != 0) = true := bne_iff_ne.mpr c8
  exact absurd ((Option.some.inj H).trans HRT.out) Qh
 rw [if_pos c8] at H
 have c8b0 : (t199 == 0) = true := beq_iff_eq.mpr c8
 have c8b1 : (t199 != 0) = false := bne_eq_false_iff_eq.mpr c8
 clear c8
 by_cases c9 : (t195 == 3 && (t196 == 9999 && (t197 == 2 && (t198 == 1)))) = true
 rotate_left
 ·rw [if_neg c9] at H
  have c9b0 : (t195 == 3 && (t196 == 9999 && (t197 == 2 && (t198 == 1)))) = false := by simpa using c9
  (try (have c9b1 : decide (t195 = 3 && (t196 == 9999 && (t197 == 2 && (t198 == 1)))) = false := by simpa using c9))
  (try (have c9b2 : (t195 == 3 && (t196 == 9999 && (t197 == 2 && (t198 == 1)))) = false := by simpa using c9))
  (try (have c9b3 : ¬ (t195 = 3 && (t196 == 9999 && (t197 == 2 && (t198 == 1)))) := by simpa using c9))
  clear c9
  exact absurd ((Option.some.inj H).trans HRT.out) Qh
 rw [if_pos c9] at H
 have c9b0 : (t195 == 3 && (t196 == 9999 && (t197 == 2 && (t198 == 1)))) = true := c9
 (try (have c9b1 : decide (t195 = 3 && (t196 == 9999 && (t197 == 2 && (t198 == 1)))) = true := by simpa using c9))
 (try (have c9b2 : (t195 == 3 && (t196 == 9999 && (t197 == 2 && (t198 == 1)))) = true := by simpa using c9))
 clear c9
 by_cases c10 : t203 = 0
 rotate_left
 ·rw [if_neg c10] at H
  have c10b0 : (t203 == 0) = false := beq_eq_false_iff_ne.mpr c10
  have c10b1 : (t203 != 0) = true := bne_iff_ne.mpr c10
  exact absurd ((Option.some.inj H).trans HRT.out) Qh
 rw [if_pos c10] at H
 have c10b0 : (t203 == 0) = true := beq_iff_eq.mpr c10
 have c10b1 : (t203 != 0) = false := bne_eq_false_iff_eq.mpr c10
 clear c10
 by_cases c11 : (t202.size : Int) = 74
 rotate_left
 ·rw [if_neg c11] at H
  have c11b0 : ((t202.size : Int) == 74) = false := beq_eq_false_iff_ne.mpr c11
  have c11b1 : ((t202.size : Int) != 74) = true := bne_iff_ne.mpr c11
  exact absurd ((Option.some.inj H).trans HRT.out) Qh
 rw [if_pos c11] at H
 have c11b0 : ((t202.size : Int) == 74) = true := beq_iff_eq.mpr c11
 have c11b1 : ((t202.size : Int) != 74) = false := bne_eq_false_iff_eq.mpr c11
 clear c11
 obtain ⟨c12, H⟩ := Qn H
 have c12b0 := eq_true c12
 have c12b1 := decide_eq_true c12
 clear c12
 obtain ⟨c13, H⟩ := Qn H
 have c13b0 := eq_true c13
 have c13b1 := decide_eq_true c13
 clear c13
 obtain rfl := Option.some.inj H
 go_enter Tryz.func22, Tryz.ntmps22
 go_wp2_with (first | ((with_reducible refine md_ (N := 1) rfl ?_); (try (refine gl_ (by rfl) ?_; dsimp only)); refine fe_ ?hg (N := 1) ?hd (cs := #[.int .i64 0, .int .i64 0, .int .i64 0, .int .i64 0]) (t := 38) ?hr ?_; (case hd => rfl); (case hg => rfl); (case hr => exact Qt); intro gb191 hg w14 hbox hb; have n0_ := ba_.mk (wa_ Qe hb); have n1_ := ba_.mk (hbox); have n2_ := ba_.mk ((by rw [hg]; exact (za_ Qe) : w.heap.size ≤ gb191)); have n3_ := ba_.mk ((by rw [hg]; exact (za_ Qe) : w.heap.size ≤ gb191)); clear HB; have HB := n0_; have BK191 := n1_; have GW191 := n2_; have GE191 := n3_; clear n0_ n1_ n2_ n3_; clear hb hbox hg; have hcz15_0 : w14.cell? ⟨gb191, 0, none⟩ = some (.int .i64 0) := (mb_ BK191.out 0).trans rfl; have hcz15_1 : w14.cell? ⟨gb191, 1, none⟩ = some (.int .i64 0) := (mb_ BK191.out 1).trans rfl; have hcz15_2 : w14.cell? ⟨gb191, 2, none⟩ = some (.int .i64 0) := (mb_ BK191.out 2).trans rfl; have hcz15_3 : w14.cell? ⟨gb191, 3, none⟩ = some (.int .i64 0) := (mb_ BK191.out 3).trans rfl; have hfz15_0 := qa_ BK191.out 0; have hfz15_1 := qa_ BK191.out 1; have hfz15_2 := qa_ BK191.out 2; have hfz15_3 := qa_ BK191.out 3) | ((with_reducible refine ia_ (f := 11) rfl ?_); refine gc_ (some 12) rfl rfl Tryz.func11 Qb rfl #[.agg #[.int .i64 3, .int .i64 9999, .int .i64 2, .int .i64 1]] rfl Qj ?_; (with_reducible refine (sh_.calls 3 9999 2 1 t192 t193 _ A1.out).mono ?_); rintro e w16 ⟨rfl, hb⟩; refine ⟨_, rfl, ?_⟩; have n0_ := ba_.mk (ed_ (g := gb191) (o := .cells #[.int .i64 3, .int .i64 9999, .int .i64 2, .int .i64 1] 38 (0, 0)) (by (with_reducible repeat (first | refine db_ ?_ _ | refine pb_ ?_ | refine cb_ ?_ _)); refine od_ (cs := #[.int .i64 3, .int .i64 9999, .int .i64 2, .int .i64 0]) ?_ 3 _ rfl; (with_reducible repeat (first | refine db_ ?_ _ | refine pb_ ?_ | refine cb_ ?_ _)); refine od_ (cs := #[.int .i64 3, .int .i64 9999, .int .i64 0, .int .i64 0]) ?_ 2 _ rfl; (with_reducible repeat (first | refine db_ ?_ _ | refine pb_ ?_ | refine cb_ ?_ _)); refine od_ (cs := #[.int .i64 3, .int .i64 0, .int .i64 0, .int .i64 0]) ?_ 1 _ rfl; (with_reducible repeat (first | refine db_ ?_ _ | refine pb_ ?_ | refine cb_ ?_ _)); refine od_ (cs := #[.int .i64 0, .int .i64 0, .int .i64 0, .int .i64 0]) ?_ 0 _ rfl; (with_reducible repeat (first | refine db_ ?_ _ | refine pb_ ?_ | refine cb_ ?_ _)); exact BK191.out) hb); have n1_ := ba_.mk (wa_ X4 hb); clear BK191; clear HB; have BK191 := n0_; have HB := n1_; clear n0_ n1_; (try clear hb); (try clear hb2); (try clear hk); (try clear hi)) | ((with_reducible refine ia_ (f := 20) rfl ?_); refine gc_ (some 17) rfl rfl Tryz.func20 Qb rfl #[.string t192] rfl Qj ?_; (with_reducible refine (ni_.calls t192 t194 _ A2.out).mono ?_); rintro e w17 ⟨rfl, hb⟩; refine ⟨_, rfl, ?_⟩; have n0_ := ba_.mk (ed_ (g := gb191) (o := .cells #[.int .i64 3, .int .i64 9999, .int .i64 2, .int .i64 1] 38 (0, 0)) (Qr BK191.out) hb); have n1_ := ba_.mk (wa_ X4 hb); clear BK191; clear HB; have BK191 := n0_; have HB := n1_; clear n0_ n1_; (try clear hb); (try clear hb2); (try clear hk); (try clear hi)) | ((with_reducible refine ia_ (f := 15) rfl ?_); refine gc_ (some 18) rfl rfl Tryz.func15 Qb rfl #[.string t194] rfl Qj ?_; (with_reducible refine (ee_.calls t194 t195 t196 t197 t198 t199 t200 _ A3.out).mono ?_); rintro e w18 ⟨rfl, hb⟩; refine ⟨_, rfl, ?_⟩; have n0_ := ba_.mk (ed_ (g := gb191) (o := .cells #[.int .i64 3, .int .i64 9999, .int .i64 2, .int .i64 1] 38 (0, 0)) (Qr BK191.out) hb); have n1_ := ba_.mk (wa_ X4 hb); clear BK191; clear HB; have BK191 := n0_; have HB := n1_; clear n0_ n1_; (try clear hb); (try clear hb2); (try clear hk); (try clear hi)) | ((with_reducible refine md_ (N := 4) rfl ?_); (try (refine gl_ (by rfl) ?_; dsimp only)); refine fe_ ?hg (N := 4) ?hd (cs := #[.int .i64 0, .int .i64 0, .int .i64 0, .int .i64 0]) (t := 38) ?hr ?_; (case hd => rfl); (case hg => rfl); (case hr => exact Qt); intro gb201 hg w19 hbox hb; have n0_ := ba_.mk (ed_ (g := gb191) (o := .cells #[.int .i64 3, .int .i64 9999, .int .i64 2, .int .i64 1] 38 (0, 0)) (Qr BK191.out) hb); have n1_ := ba_.mk (wa_ X4 hb); have n2_ := ba_.mk (hbox); have n3_ := ba_.mk ((by rw [hg]; exact (za_ X4) : w.heap.size ≤ gb201)); have n4_ := ba_.mk ((by rw [hg]; exact (za_ X4) : w.heap.size ≤ gb201)); have n5_ := ba_.mk ((by rw [hg]; exact Nat.ne_of_lt (fj_ (g := gb191) (o := .cells #[.int .i64 3, .int .i64 9999, .int .i64 2, .int .i64 1] 38 (0, 0)) (Qr BK191.out)) : gb191 ≠ gb201)); have n6_ := ba_.mk ((by rw [hg]; exact Nat.ne_of_gt (fj_ (g := gb191) (o := .cells #[.int .i64 3, .int .i64 9999, .int .i64 2, .int .i64 1] 38 (0, 0)) (Qr BK191.out)) : gb201 ≠ gb191)); clear BK191; clear HB; have BK191 := n0_; have HB := n1_; have BK201 := n2_; have GW201 := n3_; have GE201 := n4_; have NB191_201 := n5_; have NB201_191 := n6_; clear n0_ n1_ n2_ n3_ n4_ n5_ n6_; clear hb hbox hg; have hnb20 := NB201_191.out; have hnc20 := NB191_201.out; have hcz21_0 : w19.cell? ⟨gb201, 0, none⟩ = some (.int .i64 0) := (mb_ BK201.out 0).trans rfl; have hcz21_1 : w19.cell? ⟨gb201, 1, none⟩ = some (.int .i64 0) := (mb_ BK201.out 1).trans rfl; have hcz21_2 : w19.cell? ⟨gb201, 2, none⟩ = some (.int .i64 0) := (mb_ BK201.out 2).trans rfl; have hcz21_3 : w19.cell? ⟨gb201, 3, none⟩ = some (.int .i64 0) := (mb_ BK201.out 3).trans rfl; have hfz21_0 := qa_ BK201.out 0; have hfz21_1 := qa_ BK201.out 1; have hfz21_2 := qa_ BK201.out 2; have hfz21_3 := qa_ BK201.out 3) | ((with_reducible refine ia_ (f := 11) rfl ?_); refine gc_ (some 24) rfl rfl Tryz.func11 Qb rfl #[.agg #[.int .i64 0, .int .i64 0, .int .i64 0, .int .i64 0]] rfl Qj ?_; (with_reducible refine (sh_.calls 0 0 0 0 t202 t203 _ A4.out).mono ?_); rintro e w22 ⟨rfl, hb⟩; refine ⟨_, rfl, ?_⟩; have n0_ := ba_.mk (ed_ (g := gb191) (o := .cells #[.int .i64 3, .int .i64 9999, .int .i64 2, .int .i64 1] 38 (0, 0)) (by (with_reducible repeat (first | refine db_ ?_ _ | refine pb_ ?_ | refine cb_ ?_ _)); refine uh_ ?_ NB191_201.out _; (with_reducible repeat (first | refine db_ ?_ _ | refine pb_ ?_ | refine cb_ ?_ _)); refine uh_ ?_ NB191_201.out _; (with_reducible repeat (first | refine db_ ?_ _ | refine pb_ ?_ | refine cb_ ?_ _)); refine uh_ ?_ NB191_201.out _; (with_reducible repeat (first | refine db_ ?_ _ | refine pb_ ?_ | refine cb_ ?_ _)); refine uh_ ?_ NB191_201.out _; (with_reducible repeat (first | refine db_ ?_ _ | refine pb_ ?_ | refine cb_ ?_ _)); exact BK191.out) hb); have n1_ := ba_.mk (ed_ (g := gb201) (o := .cells #[.int .i64 t195, .int .i64 t196, .int .i64 t197, .int .i64 t198] 38 (0, 0)) (by (with_reducible repeat (first | refine db_ ?_ _ | refine pb_ ?_ | refine cb_ ?_ _)); refine od_ (cs := #[.int .i64 t195, .int .i64 t196, .int .i64 t197, .int .i64 0]) ?_ 3 _ rfl; (with_reducible repeat (first | refine db_ ?_ _ | refine pb_ ?_ | refine cb_ ?_ _)); refine od_ (cs := #[.int .i64 t195, .int .i64 t196, .int .i64 0, .int .i64 0]) ?_ 2 _ rfl; (with_reducible repeat (first | refine db_ ?_ _ | refine pb_ ?_ | refine cb_ ?_ _)); refine od_ (cs := #[.int .i64 t195, .int .i64 0, .int .i64 0, .int .i64 0]) ?_ 1 _ rfl; (with_reducible repeat (first | refine db_ ?_ _ | refine pb_ ?_ | refine cb_ ?_ _)); refine od_ (cs := #[.int .i64 0, .int .i64 0, .int .i64 0, .int .i64 0]) ?_ 0 _ rfl; (with_reducible repeat (first | refine db_ ?_ _ | refine pb_ ?_ | refine cb_ ?_ _)); exact BK201.out) hb); have n2_ := ba_.mk (wa_ (by repeat (first | (with_reducible first | exact HB.out | apply da_ | apply aa_ | apply ca_ | refine sa_ ?_ GE191.out | refine sa_ ?_ GE201.out) | exact HB.out)) hb); clear BK191; clear BK201; clear HB; have BK191 := n0_; have BK201 := n1_; have HB := n2_; clear n0_ n1_ n2_; (try clear hb); (try clear hb2); (try clear hk); (try clear hi); have hcz23_0 : w22.cell? ⟨gb201, 0, none⟩ = some (.int .i64 t195) := (mb_ BK201.out 0).trans rfl; have hcz23_1 : w22.cell? ⟨gb201, 1, none⟩ = some (.int .i64 t196) := (mb_ BK201.out 1).trans rfl; have hcz23_2 : w22.cell? ⟨gb201, 2, none⟩ = some (.int .i64 t197) := (mb_ BK201.out 2).trans rfl; have hcz23_3 : w22.cell? ⟨gb201, 3, none⟩ = some (.int .i64 t198) := (mb_ BK201.out 3).trans rfl; have hfz23_0 := qa_ BK201.out 0; have hfz23_1 := qa_ BK201.out 1; have hfz23_2 := qa_ BK201.out 2; have hfz23_3 := qa_ BK201.out 3; have hcz24_0 : w22.cell? ⟨gb191, 0, none⟩ = some (.int .i64 3) := (mb_ BK191.out 0).trans rfl; have hcz24_1 : w22.cell? ⟨gb191, 1, none⟩ = some (.int .i64 9999) := (mb_ BK191.out 1).trans rfl; have hcz24_2 : w22.cell? ⟨gb191, 2, none⟩ = some (.int .i64 2) := (mb_ BK191.out 2).trans rfl; have hcz24_3 : w22.cell? ⟨gb191, 3, none⟩ = some (.int .i64 1) := (mb_ BK191.out 3).trans rfl; have hfz24_0 := qa_ BK191.out 0; have hfz24_1 := qa_ BK191.out 1; have hfz24_2 := qa_ BK191.out 2; have hfz24_3 := qa_ BK191.out 3))
 go_ret
 exact ⟨Qq, by repeat (first | (with_reducible first | exact HB.out | apply da_ | apply aa_ | apply ca_ | refine sa_ ?_ GE191.out | refine sa_ ?_ GE201.out) | exact HB.out)⟩
end Go.Proofs.YtpkhgapifnjbeaaGreatDoor.T
end
section
namespace Go.Proofs.YtpkhgapifnjbeaaGreatDoor.T
open RowKit G Rs Zw.PrintWords Zw.PrintLast Zw.PrintMore
attribute [local go_sem] id_ kd_ vd_ wd_ bd_ cd_ jd_ ld_
def zb_.j0 : Nat → ByteArray → Int → Int → Bool → Option (ByteArray)
 | 0, _, _, _, _ => none
 | k + 1, x0, x1, x2, x15 => if x15 = true then (some x0) else (if 0 ≤ x1 then (if x1 < (x0.size : Int) then (if (bt x0 x1) = 48 then (if x2 = 1 then (if x1 ≤ (x0.size : Int) then (if (x0.extract 0 (x1 : Int).toNat).size + 1 ≤ 9223372036854775807 then (if 0 ≤ (wrap64 (x1 + 1)) then (if (wrap64 (x1 + 1)) ≤ (x0.size : Int) then (if ((x0.extract 0 (x1 : Int).toNat) ++ (⟨#[63]⟩ : ByteArray)).size + (x0.extract ((wrap64 (x1 + 1)) : Int).toNat x0.size).size ≤ 9223372036854775807 then (some (((x0.extract 0 (x1 : Int).toNat) ++ (⟨#[63]⟩ : ByteArray)) ++ (x0.extract ((wrap64 (x1 + 1)) : Int).toNat x0.size))) else (none)) else (none)) else (none)) else (none)) else (none)) else (if x1 ≤ (x0.size : Int) then (if (x0.extract 0 (x1 : Int).toNat).size + 1 ≤ 9223372036854775807 then (if 0 ≤ (wrap64 (x1 + 1)) then (if (wrap64 (x1 + 1)) ≤ (x0.size : Int) then (if ((x0.extract 0 (x1 : Int).toNat) ++ (⟨#[49]⟩ : ByteArray)).size + (x0.extract ((wrap64 (x1 + 1)) : Int).toNat x0.size).size ≤ 9223372036854775807 then (some (((x0.extract 0 (x1 : Int).toNat) ++ (⟨#[49]⟩ : ByteArray)) ++ (x0.extract ((wrap64 (x1 + 1)) : Int).toNat x0.size))) else (none)) else (none)) else (none)) else (none)) else (none))) else (if x2 = 1 then (if x1 ≤ (x0.size : Int) then (if (x0.extract 0 (x1 : Int).toNat).size + 1 ≤ 9223372036854775807 then (if 0 ≤ (wrap64 (x1 + 1)) then (if (wrap64 (x1 + 1)) ≤ (x0.size : Int) then (if ((x0.extract 0 (x1 : Int).toNat) ++ (⟨#[63]⟩ : ByteArray)).size + (x0.extract ((wrap64 (x1 + 1)) : Int).toNat x0.size).size ≤ 9223372036854775807 then (some (((x0.extract 0 (x1 : Int).toNat) ++ (⟨#[63]⟩ : ByteArray)) ++ (x0.extract ((wrap64 (x1 + 1)) : Int).toNat x0.size))) else (none)) else (none)) else (none)) else (none)) else (none)) else (if x1 ≤ (x0.size : Int) then (if (x0.extract 0 (x1 : Int).toNat).size + 1 ≤ 9223372036854775807 then (if 0 ≤ (wrap64 (x1 + 1)) then (if (wrap64 (x1 + 1)) ≤ (x0.size : Int) then (if ((x0.extract 0 (x1 : Int).toNat) ++ (⟨#[48]⟩ : ByteArray)).size + (x0.extract ((wrap64 (x1 + 1)) : Int).toNat x0.size).size ≤ 9223372036854775807 then (some (((x0.extract 0 (x1 : Int).toNat) ++ (⟨#[48]⟩ : ByteArray)) ++ (x0.extract ((wrap64 (x1 + 1)) : Int).toNat x0.size))) else (none)) else (none)) else (none)) else (none)) else (none)))) else (none)) else (none))
def zb_.f (k : Nat) (a0 : ByteArray) (a1 : Int) (a2 : Int) : Option (ByteArray) := if a1 < 0 then (zb_.j0 k a0 a1 a2 true) else (zb_.j0 k a0 a1 a2 (decide (a1 ≥ (a0.size : Int))))
theorem zb_.yc_ : ∀ k, (∀ y0 y1 y2 y3, LeO (zb_.j0 k y0 y1 y2 y3) (zb_.j0 (k + 1) y0 y1 y2 y3))
 | 0 => fun _ _ _ _ r h => by simp [zb_.j0] at h
 | k + 1 => by
  have ih0 := zb_.yc_ k
  intro y0 y1 y2 y3
  unfold zb_.j0
  repeat' first
  | (with_reducible exact ih0 _ _ _ _)
  | (with_reducible first | exact LeO.refl _ | exact LeO.none _ | refine LeO.ite ?_ ?_ | refine LeO.bind ?_ (fun _ => ?_))
  | exact ih0 _ _ _ _
  | exact LeO.none _
  | refine LeO.ite ?_ ?_
  | refine LeO.bind ?_ (fun _ => ?_)
theorem zb_.mono : ∀ a0 a1 a2 k, LeO (zb_.f k a0 a1 a2) (zb_.f (k + 1) a0 a1 a2) := by
 intro a0 a1 a2 k
 have ih0 := zb_.yc_ k
 unfold zb_.f
 repeat' first
   | (with_reducible exact ih0 _ _ _ _)
   | (with_reducible first | exact LeO.refl _ | exact LeO.none _ | refine LeO.ite ?_ ?_ | refine LeO.bind ?_ (fun _ => ?_))
   | exact ih0 _ _ _ _
   | exact LeO.none _
   | refine LeO.ite ?_ ?_
   | refine LeO.bind ?_ (fun _ => ?_)
set_option maxHeartbeats 8000000 in
set_option maxRecDepth 100000 in
theorem zb_.calls (k : Nat) (a0 : ByteArray) (a1 : Int) (a2 : Int) (r : ByteArray) (w : World) (h : zb_.f k a0 a1 a2 = some r) :
  Calls Tryz.prog 48 #[.string a0, .int .i64 a1, .int .i64 a2] w fun e w' => e = .returned (.string r) ∧ ja_ w w' := by
 have H : (if a1 < 0 then (zb_.j0 k a0 a1 a2 true) else (zb_.j0 k a0 a1 a2 (decide (a1 ≥ (a0.size : Int))))) = some r := h
 clear h
 have HC4 := ba_.mk H
 clear H
 go_enter Tryz.func48, Tryz.ntmps48
 go_upto_region 1 with (fail)
 repeat (go_quiet (fail); go_upto_region 1 with (fail))
 go_cut [15] (fun v15 wc => ∃ (kq : Nat) (x15_3 : Bool), v15 = .bool x15_3 ∧ ba_ (zb_.j0 kq a0 a1 a2 x15_3 = some r) ∧ ba_ (kq ≤ k) ∧ ja_ w wc)
 case first =>
  have H := HC4.out
  clear HC4
  by_cases c5 : a1 < 0
  ·rw [if_pos c5] at H
   have c5b0 := decide_eq_true c5
   clear c5
   (first | rw [c5b0] | (simp only [yb_, ac_]; rw [c5b0]) | skip)
   have H' := ba_.mk H
   clear H
   go_wp2
   repeat (go_quiet (fail); try go_wp2)
   go_meet
   case rel => exact Xt
  rw [if_neg c5] at H
  have c5b0 := decide_eq_false c5
  clear c5
  (first | rw [c5b0] | (simp only [yb_, ac_]; rw [c5b0]) | skip)
  have H' := ba_.mk H
  clear H
  go_wp2
  repeat (go_quiet (fail); try go_wp2)
  go_meet
  case rel => exact ⟨_, (decide (a1 ≥ (a0.size : Int))), Qi, H', ⟨Xf⟩, Qp⟩
 case rest =>
  clear HC4
  try clear p2
  try clear c4
  try clear c5
  try clear c5b0
  obtain ⟨kq, x15_3, rfl, HA, HJ3, ⟨mc3, rfl⟩⟩ := hcut
  cases kq with
  | zero => exact absurd HA.out (by simp [zb_.j0])
  | succ kj3 =>
   have H := HA.out
   clear HA
   simp only [zb_.j0] at H
   by_cases c6 : x15_3 = true
   ·subst c6
    have H1 : (some a0) = some r := by rw [if_pos rfl] at H; exact H
    clear H
    have H := H1
    clear H1
    obtain rfl := Option.some.inj H
    go_wp2
    repeat (go_quiet (fail); try go_wp2)
    go_ret
    exact ⟨Qi, Qp⟩
   replace c6 := Bool.eq_false_iff.mpr c6
   subst c6
   have H1 : (if 0 ≤ a1 then (if a1 < (a0.size : Int) then (if (bt a0 a1) = 48 then (if a2 = 1 then (if a1 ≤ (a0.size : Int) then (if (a0.extract 0 (a1 : Int).toNat).size + 1 ≤ 9223372036854775807 then (if 0 ≤ (wrap64 (a1 + 1)) then (if (wrap64 (a1 + 1)) ≤ (a0.size : Int) then (if ((a0.extract 0 (a1 : Int).toNat) ++ (⟨#[63]⟩ : ByteArray)).size + (a0.extract ((wrap64 (a1 + 1)) : Int).toNat a0.size).size ≤ 9223372036854775807 then (some (((a0.extract 0 (a1 : Int).toNat) ++ (⟨#[63]⟩ : ByteArray)) ++ (a0.extract ((wrap64 (a1 + 1)) : Int).toNat a0.size))) else (none)) else (none)) else (none)) else (none)) else (none)) else (if a1 ≤ (a0.size : Int) then (if (a0.extract 0 (a1 : Int).toNat).size + 1 ≤ 9223372036854775807 then (if 0 ≤ (wrap64 (a1 + 1)) then (if (wrap64 (a1 + 1)) ≤ (a0.size : Int) then (if ((a0.extract 0 (a1 : Int).toNat) ++ (⟨#[49]⟩ : ByteArray)).size + (a0.extract ((wrap64 (a1 + 1)) : Int).toNat a0.size).size ≤ 9223372036854775807 then (some (((a0.extract 0 (a1 : Int).toNat) ++ (⟨#[49]⟩ : ByteArray)) ++ (a0.extract ((wrap64 (a1 + 1)) : Int).toNat a0.size))) else (none)) else (none)) else (none)) else (none)) else (none))) else (if a2 = 1 then (if a1 ≤ (a0.size : Int) then (if (a0.extract 0 (a1 : Int).toNat).size + 1 ≤ 9223372036854775807 then (if 0 ≤ (wrap64 (a1 + 1)) then (if (wrap64 (a1 + 1)) ≤ (a0.size : Int) then (if ((a0.extract 0 (a1 : Int).toNat) ++ (⟨#[63]⟩ : ByteArray)).size + (a0.extract ((wrap64 (a1 + 1)) : Int).toNat a0.size).size ≤ 9223372036854775807 then (some (((a0.extract 0 (a1 : Int).toNat) ++ (⟨#[63]⟩ : ByteArray)) ++ (a0.extract ((wrap64 (a1 + 1)) : Int).toNat a0.size))) else (none)) else (none)) else (none)) else (none)) else (none)) else (if a1 ≤ (a0.size : Int) then (if (a0.extract 0 (a1 : Int).toNat).size + 1 ≤ 9223372036854775807 then (if 0 ≤ (wrap64 (a1 + 1)) then (if (wrap64 (a1 + 1)) ≤ (a0.size : Int) then (if ((a0.extract 0 (a1 : Int).toNat) ++ (⟨#[48]⟩ : ByteArray)).size + (a0.extract ((wrap64 (a1 + 1)) : Int).toNat a0.size).size ≤ 9223372036854775807 then (some (((a0.extract 0 (a1 : Int).toNat) ++ (⟨#[48]⟩ : ByteArray)) ++ (a0.extract ((wrap64 (a1 + 1)) : Int).toNat a0.size))) else (none)) else (none)) else (none)) else (none)) else (none)))) else (none)) else (none)) = some r := by rw [if_neg (show ¬ (false = true) by decide)] at H; exact H
   clear H
   have H := H1
   clear H1
   obtain ⟨c7, H⟩ := Qn H
   have c7b0 := decide_eq_true c7
   clear c7
   obtain ⟨c8, H⟩ := Qn H
   have c8b0 := decide_eq_true c8
   clear c8
   by_cases c10 : (bt a0 a1) = 48
   ·rw [if_pos c10] at H
    have c10b0 : ((bt a0 a1) == 48) = true := beq_iff_eq.mpr c10
    have c10b1 : ((bt a0 a1) != 48) = false := bne_eq_false_iff_eq.mpr c10
    clear c10
    by_cases c11 : a2 = 1
    ·rw [if_pos c11] at H
     have c11b0 : (a2 == 1) = true := beq_iff_eq.mpr c11
     have c11b1 : (a2 != 1) = false := bne_eq_false_iff_eq.mpr c11
     clear c11
     have c12b0 := eq_true (of_decide_eq_true Qg : 0 ≤ a1)
     obtain ⟨c13, H⟩ := Qn H
     have c13b0 := eq_true c13
     have c13b1 := decide_eq_true c13
     clear c13
     obtain ⟨c14, H⟩ := Qn H
     have c14b0 := eq_true c14
     have c14b1 := decide_eq_true c14
     try have c14b2 : (9223372036854775807 < (a0.extract 0 (a1 : Int).toNat).size + 1) = False := eq_false (Nat.not_lt.2 c14)
     obtain ⟨ji15, hji15⟩ : ∃ j_ : Int, (wrap64 (a1 + 1)) = j_ := ⟨_, rfl⟩
     replace H : (if 0 ≤ (ji15) then (if (ji15) ≤ (a0.size : Int) then (if ((a0.extract 0 (a1 : Int).toNat) ++ (⟨#[63]⟩ : ByteArray)).size + (a0.extract ((ji15) : Int).toNat a0.size).size ≤ 9223372036854775807 then (some (((a0.extract 0 (a1 : Int).toNat) ++ (⟨#[63]⟩ : ByteArray)) ++ (a0.extract ((ji15) : Int).toNat a0.size))) else (none)) else (none)) else (none)) = some r := by first | (rw [hji15] at H; exact H) | (simp only [hji15] at H ⊢; exact H)
     have hji15w : (IntKind.i64.wrap (a1 + 1)) = ji15 := (yb_ _).trans hji15
     obtain ⟨c16, H⟩ := Qn H
     have c16b0 := eq_true c16
     have c16b1 := decide_eq_true c16
     clear c16
     obtain ⟨c17, H⟩ := Qn H
     have c17b0 := eq_true c17
     have c17b1 := decide_eq_true c17
     clear c17
     obtain ⟨c18, H⟩ := Qn H
     have c18b0 := eq_true c18
     have c18b1 := decide_eq_true c18
     try have c18b2 : (9223372036854775807 < ((a0.extract 0 (a1 : Int).toNat) ++ (⟨#[63]⟩ : ByteArray)).size + (a0.extract ((ji15) : Int).toNat a0.size).size) = False := eq_false (Nat.not_lt.2 c18)
     obtain rfl := Option.some.inj H
     have p9 : 0 ≤ (a1 : Int) := of_decide_eq_true Qg
     have q9 : a1 < (a0.size : Int) := of_decide_eq_true Qg
     have hx9 := ik_ a0 a1
     replace p9 := eq_true p9
     replace q9 := eq_true q9
     have h0_ : a1.toNat < a0.size := by have h1_ := of_eq_true (by assumption : (a1 < (a0.size : Int)) = True); have h2_ := of_eq_true (by assumption : (0 ≤ (a1 : Int)) = True); omega
     have h1_ : (⟨#[63]⟩ : ByteArray).size = 1 := rfl
     have n1_ : (9223372036854775807 < a1.toNat + 1) = False := eq_false (by have h_ := c14; simp only [ByteArray.size_extract] at h_; omega)
     have n2_ : (9223372036854775807 < a1.toNat + 1 + (a0.size - ji15.toNat)) = False := eq_false (by have h_ := c18; simp only [ByteArray.size_append, ByteArray.size_extract] at h_; omega)
     clear h0_ h1_
     go_wp2
     repeat (go_quiet (fail); try go_wp2)
     go_ret
     exact ⟨by first | rfl | (simp; done) | (simp only [← hji15] <;> (first | rfl | simp)) | (simp [*]; done), Qp⟩
    rw [if_neg c11] at H
    have c11b0 : (a2 == 1) = false := beq_eq_false_iff_ne.mpr c11
    have c11b1 : (a2 != 1) = true := bne_iff_ne.mpr c11
    have c19b0 := eq_true (of_decide_eq_true Qg : 0 ≤ a1)
    by_cases c20 : a1 ≤ (a0.size : Int)
    rotate_left
    ·rw [if_neg c20] at H
     exact absurd H Qo
    rw [if_pos c20] at H
    have c20b0 := eq_true c20
    have c20b1 := decide_eq_true c20
    clear c20
    obtain ⟨c21, H⟩ := Qn H
    have c21b0 := eq_true c21
    have c21b1 := decide_eq_true c21
    try have c21b2 : (9223372036854775807 < (a0.extract 0 (a1 : Int).toNat).size + 1) = False := eq_false (Nat.not_lt.2 c21)
    obtain ⟨ji22, hji22⟩ : ∃ j_ : Int, (wrap64 (a1 + 1)) = j_ := ⟨_, rfl⟩
    replace H : (if 0 ≤ (ji22) then (if (ji22) ≤ (a0.size : Int) then (if ((a0.extract 0 (a1 : Int).toNat) ++ (⟨#[49]⟩ : ByteArray)).size + (a0.extract ((ji22) : Int).toNat a0.size).size ≤ 9223372036854775807 then (some (((a0.extract 0 (a1 : Int).toNat) ++ (⟨#[49]⟩ : ByteArray)) ++ (a0.extract ((ji22) : Int).toNat a0.size))) else (none)) else (none)) else (none)) = some r := by first | (rw [hji22] at H; exact H) | (simp only [hji22] at H ⊢; exact H)
    have hji22w : (IntKind.i64.wrap (a1 + 1)) = ji22 := (yb_ _).trans hji22
    by_cases c23 : 0 ≤ (ji22)
    rotate_left
    ·rw [if_neg c23] at H
     exact absurd H Qo
    rw [if_pos c23] at H
    have c23b0 := eq_true c23
    have c23b1 := decide_eq_true c23
    clear c23
    by_cases c24 : (ji22) ≤ (a0.size : Int)
    rotate_left
    ·rw [if_neg c24] at H
     exact absurd H Qo
    rw [if_pos c24] at H
    have c24b0 := eq_true c24
    have c24b1 := decide_eq_true c24
    clear c24
    by_cases c25 : ((a0.extract 0 (a1 : Int).toNat) ++ (⟨#[49]⟩ : ByteArray)).size + (a0.extract ((ji22) : Int).toNat a0.size).size ≤ 9223372036854775807
    rotate_left
    ·rw [if_neg c25] at H
     exact absurd H Qo
    rw [if_pos c25] at H
    have c25b0 := eq_true c25
    have c25b1 := decide_eq_true c25
    try have c25b2 : (9223372036854775807 < ((a0.extract 0 (a1 : Int).toNat) ++ (⟨#[49]⟩ : ByteArray)).size + (a0.extract ((ji22) : Int).toNat a0.size).size) = False := eq_false (Nat.not_lt.2 c25)
    obtain rfl := Option.some.inj H
    have p9 : 0 ≤ (a1 : Int) := of_decide_eq_true Qg
    have q9 : a1 < (a0.size : Int) := of_decide_eq_true Qg
    have hx9 := ik_ a0 a1
    replace p9 := eq_true p9
    replace q9 := eq_true q9
    have h0_ : a1.toNat < a0.size := by have h1_ := of_eq_true (by assumption : (a1 < (a0.size : Int)) = True); have h2_ := of_eq_true (by assumption : (0 ≤ (a1 : Int)) = True); omega
    have h1_ : (⟨#[49]⟩ : ByteArray).size = 1 := rfl
    have n1_ : (9223372036854775807 < a1.toNat + 1) = False := eq_false (by have h_ := c21; simp only [ByteArray.size_extract] at h_; omega)
    have n2_ : (9223372036854775807 < a1.toNat + 1 + (a0.size - ji22.toNat)) = False := eq_false (by have h_ := c25; simp only [ByteArray.size_append, ByteArray.size_extract] at h_; omega)
    clear h0_ h1_
    go_wp2
    repeat (go_quiet (fail); try go_wp2)
    go_ret
    exact ⟨by first | rfl | (simp; done) | (simp only [← hji22] <;> (first | rfl | simp)) | (simp [*]; done), Qp⟩
   rw [if_neg c10] at H
   have c10b0 : ((bt a0 a1) == 48) = false := beq_eq_false_iff_ne.mpr c10
   have c10b1 : ((bt a0 a1) != 48) = true := bne_iff_ne.mpr c10
   by_cases c26 : a2 = 1
   rotate_left
   ·rw [if_neg c26] at H
    have c26b0 : (a2 == 1) = false := beq_eq_false_iff_ne.mpr c26
    have c26b1 : (a2 != 1) = true := bne_iff_ne.mpr c26
    have c34b0 := eq_true (of_decide_eq_true Qg : 0 ≤ a1)
    by_cases c35 : a1 ≤ (a0.size : Int)
    rotate_left
    ·rw [if_neg c35] at H
     exact absurd H Qo
    rw [if_pos c35] at H
    have c35b0 := eq_true c35
    have c35b1 := decide_eq_true c35
    clear c35
    by_cases c36 : (a0.extract 0 (a1 : Int).toNat).size + 1 ≤ 9223372036854775807
    rotate_left
    ·rw [if_neg c36] at H
     exact absurd H Qo
    rw [if_pos c36] at H
    have c36b0 := eq_true c36
    have c36b1 := decide_eq_true c36
    try have c36b2 : (9223372036854775807 < (a0.extract 0 (a1 : Int).toNat).size + 1) = False := eq_false (Nat.not_lt.2 c36)
    obtain ⟨ji37, hji37⟩ : ∃ j_ : Int, (wrap64 (a1 + 1)) = j_ := ⟨_, rfl⟩
    replace H : (if 0 ≤ (ji37) then (if (ji37) ≤ (a0.size : Int) then (if ((a0.extract 0 (a1 : Int).toNat) ++ (⟨#[48]⟩ : ByteArray)).size + (a0.extract ((ji37) : Int).toNat a0.size).size ≤ 9223372036854775807 then (some (((a0.extract 0 (a1 : Int).toNat) ++ (⟨#[48]⟩ : ByteArray)) ++ (a0.extract ((ji37) : Int).toNat a0.size))) else (none)) else (none)) else (none)) = some r := by first | (rw [hji37] at H; exact H) | (simp only [hji37] at H ⊢; exact H)
    have hji37w : (IntKind.i64.wrap (a1 + 1)) = ji37 := (yb_ _).trans hji37
    by_cases c38 : 0 ≤ (ji37)
    rotate_left
    ·rw [if_neg c38] at H
     exact absurd H Qo
    rw [if_pos c38] at H
    have c38b0 := eq_true c38
    have c38b1 := decide_eq_true c38
    clear c38
    by_cases c39 : (ji37) ≤ (a0.size : Int)
    rotate_left
    ·rw [if_neg c39] at H
     exact absurd H Qo
    rw [if_pos c39] at H
    have c39b0 := eq_true c39
    have c39b1 := decide_eq_true c39
    clear c39
    by_cases c40 : ((a0.extract 0 (a1 : Int).toNat) ++ (⟨#[48]⟩ : ByteArray)).size + (a0.extract ((ji37) : Int).toNat a0.size).size ≤ 9223372036854775807
    rotate_left
    ·rw [if_neg c40] at H
     exact absurd H Qo
    rw [if_pos c40] at H
    have c40b0 := eq_true c40
    have c40b1 := decide_eq_true c40
    try have c40b2 : (9223372036854775807 < ((a0.extract 0 (a1 : Int).toNat) ++ (⟨#[48]⟩ : ByteArray)).size + (a0.extract ((ji37) : Int).toNat a0.size).size) = False := eq_false (Nat.not_lt.2 c40)
    obtain rfl := Option.some.inj H
    have p9 : 0 ≤ (a1 : Int) := of_decide_eq_true Qg
    have q9 : a1 < (a0.size : Int) := of_decide_eq_true Qg
    have hx9 := ik_ a0 a1
    replace p9 := eq_true p9
    replace q9 := eq_true q9
    have h0_ : a1.toNat < a0.size := by have h1_ := of_eq_true (by assumption : (a1 < (a0.size : Int)) = True); have h2_ := of_eq_true (by assumption : (0 ≤ (a1 : Int)) = True); omega
    have h1_ : (⟨#[48]⟩ : ByteArray).size = 1 := rfl
    have n1_ : (9223372036854775807 < a1.toNat + 1) = False := eq_false (by have h_ := c36; simp only [ByteArray.size_extract] at h_; omega)
    have n2_ : (9223372036854775807 < a1.toNat + 1 + (a0.size - ji37.toNat)) = False := eq_false (by have h_ := c40; simp only [ByteArray.size_append, ByteArray.size_extract] at h_; omega)
    clear h0_ h1_
    go_wp2
    repeat (go_quiet (fail); try go_wp2)
    go_ret
    exact ⟨by first | rfl | (simp; done) | (simp only [← hji37] <;> (first | rfl | simp)) | (simp [*]; done), Qp⟩
   rw [if_pos c26] at H
   have c26b0 : (a2 == 1) = true := beq_iff_eq.mpr c26
   have c26b1 : (a2 != 1) = false := bne_eq_false_iff_eq.mpr c26
   clear c26
   have c27b0 := eq_true (of_decide_eq_true Qg : 0 ≤ a1)
   by_cases c28 : a1 ≤ (a0.size : Int)
   rotate_left
   ·rw [if_neg c28] at H
    exact absurd H Qo
   rw [if_pos c28] at H
   have c28b0 := eq_true c28
   have c28b1 := decide_eq_true c28
   clear c28
   by_cases c29 : (a0.extract 0 (a1 : Int).toNat).size + 1 ≤ 9223372036854775807
   rotate_left
   ·rw [if_neg c29] at H
    exact absurd H Qo
   rw [if_pos c29] at H
   have c29b0 := eq_true c29
   have c29b1 := decide_eq_true c29
   try have c29b2 : (9223372036854775807 < (a0.extract 0 (a1 : Int).toNat).size + 1) = False := eq_false (Nat.not_lt.2 c29)
   obtain ⟨ji30, hji30⟩ : ∃ j_ : Int, (wrap64 (a1 + 1)) = j_ := ⟨_, rfl⟩
   replace H : (if 0 ≤ (ji30) then (if (ji30) ≤ (a0.size : Int) then (if ((a0.extract 0 (a1 : Int).toNat) ++ (⟨#[63]⟩ : ByteArray)).size + (a0.extract ((ji30) : Int).toNat a0.size).size ≤ 9223372036854775807 then (some (((a0.extract 0 (a1 : Int).toNat) ++ (⟨#[63]⟩ : ByteArray)) ++ (a0.extract ((ji30) : Int).toNat a0.size))) else (none)) else (none)) else (none)) = some r := by first | (rw [hji30] at H; exact H) | (simp only [hji30] at H ⊢; exact H)
   have hji30w : (IntKind.i64.wrap (a1 + 1)) = ji30 := (yb_ _).trans hji30
   by_cases c31 : 0 ≤ (ji30)
   rotate_left
   ·rw [if_neg c31] at H
    exact absurd H Qo
   rw [if_pos c31] at H
   have c31b0 := eq_true c31
   have c31b1 := decide_eq_true c31
   clear c31
   by_cases c32 : (ji30) ≤ (a0.size : Int)
   rotate_left
   ·rw [if_neg c32] at H
    exact absurd H Qo
   rw [if_pos c32] at H
   have c32b0 := eq_true c32
   have c32b1 := decide_eq_true c32
   clear c32
   by_cases c33 : ((a0.extract 0 (a1 : Int).toNat) ++ (⟨#[63]⟩ : ByteArray)).size + (a0.extract ((ji30) : Int).toNat a0.size).size ≤ 9223372036854775807
   rotate_left
   ·rw [if_neg c33] at H
    exact absurd H Qo
   rw [if_pos c33] at H
   have c33b0 := eq_true c33
   have c33b1 := decide_eq_true c33
   try have c33b2 : (9223372036854775807 < ((a0.extract 0 (a1 : Int).toNat) ++ (⟨#[63]⟩ : ByteArray)).size + (a0.extract ((ji30) : Int).toNat a0.size).size) = False := eq_false (Nat.not_lt.2 c33)
   obtain rfl := Option.some.inj H
   have p9 : 0 ≤ (a1 : Int) := of_decide_eq_true Qg
   have q9 : a1 < (a0.size : Int) := of_decide_eq_true Qg
   have hx9 := ik_ a0 a1
   replace p9 := eq_true p9
   replace q9 := eq_true q9
   have h0_ : a1.toNat < a0.size := by have h1_ := of_eq_true (by assumption : (a1 < (a0.size : Int)) = True); have h2_ := of_eq_true (by assumption : (0 ≤ (a1 : Int)) = True); omega
   have h1_ : (⟨#[63]⟩ : ByteArray).size = 1 := rfl
   have n1_ : (9223372036854775807 < a1.toNat + 1) = False := eq_false (by have h_ := c29; simp only [ByteArray.size_extract] at h_; omega)
   have n2_ : (9223372036854775807 < a1.toNat + 1 + (a0.size - ji30.toNat)) = False := eq_false (by have h_ := c33; simp only [ByteArray.size_append, ByteArray.size_extract] at h_; omega)
   clear h0_ h1_
   go_wp2
   repeat (go_quiet (fail); try go_wp2)
   go_ret
   exact ⟨by first | rfl | (simp; done) | (simp only [← hji30] <;> (first | rfl | simp)) | (simp [*]; done), Qp⟩
def bb_.l0 : Nat → ByteArray → Int → List Int → Int → Option (ByteArray × Int)
 | 0, _, _, _, _ => none
 | k + 1, x1, x7, x1000, x1001 => if x7 > 0 then ((kb_.f x1000 x1001 (x1.size : Int)).bind fun bt224 => ((kb_.f x1000 bt224.2 2).bind fun bt226 => ((zb_.f k x1 bt224.1 bt226.1).bind fun t228 => (bb_.l0 k t228 (wrap64 (x7 - 1)) x1000 bt226.2)))) else (some (x1, x1001))
def bb_.f (k : Nat) (s0_0 : List Int) (s0_1 : Int) (a1 : ByteArray) (a2 : Int) : Option (ByteArray × Int) := (wb_.f s0_0 s0_1 0 a2).bind fun bt222 => (bb_.l0 k a1 bt222.1 s0_0 bt222.2)
theorem bb_.yc_ : ∀ k, (∀ y0 y1 y2 y3, LeO (bb_.l0 k y0 y1 y2 y3) (bb_.l0 (k + 1) y0 y1 y2 y3))
 | 0 => fun _ _ _ _ r h => by simp [bb_.l0] at h
 | k + 1 => by
  have ih0 := bb_.yc_ k
  intro y0 y1 y2 y3
  unfold bb_.l0
  repeat' first
  | (with_reducible exact ih0 _ _ _ _)
  | (with_reducible exact zb_.mono _ _ _ _)
  | (with_reducible first | exact LeO.refl _ | exact LeO.none _ | refine LeO.ite ?_ ?_ | refine LeO.bind ?_ (fun _ => ?_))
  | exact ih0 _ _ _ _
  | exact zb_.mono _ _ _ _
  | exact LeO.none _
  | refine LeO.ite ?_ ?_
  | refine LeO.bind ?_ (fun _ => ?_)
theorem bb_.mono : ∀ a0 a1 a2 a3 k, LeO (bb_.f k a0 a1 a2 a3) (bb_.f (k + 1) a0 a1 a2 a3) := by
 intro a0 a1 a2 a3 k
 have ih0 := bb_.yc_ k
 unfold bb_.f
 repeat' first
   | (with_reducible exact ih0 _ _ _ _)
   | (with_reducible exact zb_.mono _ _ _ _)
   | (with_reducible first | exact LeO.refl _ | exact LeO.none _ | refine LeO.ite ?_ ?_ | refine LeO.bind ?_ (fun _ => ?_))
   | exact ih0 _ _ _ _
   | exact zb_.mono _ _ _ _
   | exact LeO.none _
   | refine LeO.ite ?_ ?_
   | refine LeO.bind ?_ (fun _ => ?_)
set_option maxHeartbeats 8000000 in
set_option maxRecDepth 100000 in
theorem bb_.calls (k : Nat) (g : Nat) (s0_0 : List Int) (s0_1 : Int) (a1 : ByteArray) (a2 : Int) (r1 : ByteArray) (r2 : Int) (w0 w : World) (hI : ya_ w0 w g s0_0 s0_1) (hB : Below w0.heap.size w0 w) (h : bb_.f k s0_0 s0_1 a1 a2 = some (r1, r2)) :
  Calls Tryz.prog 55 #[.pointer (some ⟨g, 0, none⟩), .string a1, .int .i64 a2] w fun e w' => e = .returned (.string r1) ∧ ya_ w0 w' g s0_0 r2 ∧ Below w0.heap.size w0 w' ∧ vb_ w w' g none := by
 have HI0 := ba_.mk hI
 have HK := ba_.mk (vb_.refl w g none)
 have HL := ba_.mk hB.size
 clear hI
 have HW0 := ba_.mk hB.size
 have HB := ba_.mk hB
 clear hB
 have H : ((wb_.f s0_0 s0_1 0 a2).bind fun bt222 => (bb_.l0 k a1 bt222.1 s0_0 bt222.2)) = some (r1, r2) := h
 clear h
 obtain ⟨⟨t222, t223⟩, A4, H⟩ := Qk H
 try dsimp only at H
 have H' := ba_.mk H
 clear H
 go_enter Tryz.func55, Tryz.ntmps55
 go_wp2_with (first | ((with_reducible refine ia_ (f := 31) rfl ?_); refine gc_ (some 10) rfl rfl Tryz.func31 Qb rfl #[.pointer (some ⟨g, 0, none⟩), .int .i64 0, .int .i64 a2] rfl Qj ?_; (with_reducible refine (wb_.calls g s0_0 s0_1 0 a2 t222 t223 w0 _ ?side1 ?side2 A4.out).mono ?_); (case side1 => exact Q7); (case side2 => exact Q8); rintro e w5 ⟨rfl, hi, hb, hk⟩; refine ⟨_, rfl, ?_⟩; have n0_ := ba_.mk (vb_.trans Qs hk (.inl rfl)); have n1_ := ba_.mk (hb); have n2_ := ba_.mk (hi); clear HK; clear HB; clear HI0; have HK := n0_; have HB := n1_; have HI0 := n2_; clear n0_ n1_ n2_; (try clear hb); (try clear hb2); (try clear hk); (try clear hi)))
 go_loopg [1, 7] k (fun kq v1 v7 w' => ∃ (x1_1 : ByteArray) (x7_1 : Int) (x1001_1 : Int), v1 = .string x1_1 ∧ v7 = .int .i64 x7_1 ∧ ba_ (bb_.l0 kq x1_1 x7_1 s0_0 x1001_1 = some (r1, r2)) ∧ ba_ (kq ≤ k) ∧ ba_ (ya_ w0 w' g s0_0 x1001_1) ∧ ba_ (vb_ w w' g none) ∧ ba_ (Below w0.heap.size w0 w'))
 case atStart => exact ⟨(a1), (t222), (t223), Qi, Qi, H', ⟨Nat.le_refl _⟩, ⟨Qx⟩, ⟨Qs⟩, ⟨Qy⟩⟩
 case round =>
  clear H'
  try clear p2
  try clear c3
  try clear c5
  obtain ⟨x1_1, x7_1, x1001_1, rfl, rfl, HA, HK1, HI0, HK, HB⟩ := hrel
  cases gk with
  | zero => exact absurd HA.out (by simp [bb_.l0])
  | succ k1 =>
   have H := HA.out
   clear HA
   simp only [bb_.l0] at H
   by_cases c6 : x7_1 > 0
   rotate_left
   ·rw [if_neg c6] at H
    have c6b0 : decide (0 < x7_1) = false := decide_eq_false c6
    clear c6
    simp only [Option.some.injEq, Prod.mk.injEq] at H
    obtain ⟨rfl, rfl⟩ := H
    go_wp2
    go_ret
    exact ⟨Qq, Qx, Qy, Qs⟩
   rw [if_pos c6] at H
   have c6b0 : decide (0 < x7_1) = true := decide_eq_true c6
   clear c6
   obtain ⟨⟨t224, t225⟩, A7, H⟩ := Qk H
   try dsimp only at H
   obtain ⟨⟨t226, t227⟩, A8, H⟩ := Qk H
   try dsimp only at H
   obtain ⟨t228, A9, H⟩ := Qk H
   try dsimp only at H
   have H' := ba_.mk H
   clear H
   go_wp2_with (first | ((with_reducible refine ia_ (f := 30) rfl ?_); refine gc_ (some 19) rfl rfl Tryz.func30 Qb rfl #[.pointer (some ⟨g, 0, none⟩), .int .i64 (x1_1.size : Int)] rfl Qj ?_; (with_reducible refine (kb_.calls g s0_0 x1001_1 (x1_1.size : Int) t224 t225 w0 _ ?side1 ?side2 A7.out).mono ?_); (case side1 => exact Q7); (case side2 => exact Q8); rintro e w10 ⟨rfl, hi, hb, hk⟩; refine ⟨_, rfl, ?_⟩; have n0_ := ba_.mk (vb_.trans Qs hk (.inl rfl)); have n1_ := ba_.mk (hb); have n2_ := ba_.mk (hi); clear HK; clear HB; clear HI0; have HK := n0_; have HB := n1_; have HI0 := n2_; clear n0_ n1_ n2_; (try clear hb); (try clear hb2); (try clear hk); (try clear hi)) | ((with_reducible refine ia_ (f := 30) rfl ?_); refine gc_ (some 21) rfl rfl Tryz.func30 Qb rfl #[.pointer (some ⟨g, 0, none⟩), .int .i64 2] rfl Qj ?_; (with_reducible refine (kb_.calls g s0_0 t225 2 t226 t227 w0 _ ?side1 ?side2 A8.out).mono ?_); (case side1 => exact Q7); (case side2 => exact Q8); rintro e w11 ⟨rfl, hi, hb, hk⟩; refine ⟨_, rfl, ?_⟩; have n0_ := ba_.mk (vb_.trans Qs hk (.inl rfl)); have n1_ := ba_.mk (hb); have n2_ := ba_.mk (hi); clear HK; clear HB; clear HI0; have HK := n0_; have HB := n1_; have HI0 := n2_; clear n0_ n1_ n2_; (try clear hb); (try clear hb2); (try clear hk); (try clear hi)) | ((with_reducible refine ia_ (f := 48) rfl ?_); refine gc_ (some 22) rfl rfl Tryz.func48 Qb rfl #[.string x1_1, .int .i64 t224, .int .i64 t226] rfl Qj ?_; (with_reducible refine (zb_.calls k1 x1_1 t224 t226 t228 _ A9.out).mono ?_); rintro e w' ⟨rfl, ⟨nd, rfl⟩⟩; refine ⟨_, rfl, ?_⟩))
   go_roundg k1
   case measure => have := HK1.out; omega
   case rel => exact ⟨(t228), (wrap64 (x7_1 - 1)), (t227), Qi, Qi, H', ⟨Qw⟩, ⟨Qx⟩, ⟨Qs⟩, ⟨Qy⟩⟩
end Go.Proofs.YtpkhgapifnjbeaaGreatDoor.T
end
