/- Put together by pack2.py. -/
import Derived.Shelf.Strings.Builder1
import Derived.Shelf.Strings.Builder2
import Derived.Shelf.Strings.Trim
import Derived.Shelf.Small.Utf8
import Derived.Shelf.Small.Strs
import Derived.Shelf.Strings.BuilderF
import Derived.Shelf.Strings.BuilderK
import Derived.Shelf.Utf8.RuneCount
import Derived.Shelf.Strings.Builder2Cap
import Derived.Shelf.Strings.Search1
import Derived.Shelf.Strings.Search2
import Derived.Shelf.Strings.Search3
import Derived.Shelf.Strings.Count
import Derived.Shelf.LaysM
import Derived.Shelf.Strings.Shaped
import Derived.Shelf.Strings.Prefix
import Derived.Shelf.Strings.Split
import Derived.Shelf.Unicode.Decode
import Derived.Shelf.Strings.Runes
import Derived.Shelf.Strings.RuneCount
import Derived.Shelf.Strings.AsciiSet
import Derived.Shelf.Bits.Mul64
import Derived.Shelf.Strings.Repeat
import Derived.Shelf.Unicode.DecodeSlow
import Derived.Shelf.Unicode.DecodeAny
import Derived.Shelf.Unicode.DecodeLast
import Derived.Shelf.Slices.Turned
import Derived.Ground.Names2Prog
import Derived.Shelf.Slices.Clone
import Derived.Ground.SlgnProg
import Derived.Shelf.SlicesE.Clone
import Derived.Shelf.Strings.SlTrimAscii
import Derived.Shelf.SlicesE.Reverse
import Derived.Test.YtpkhgapifnjbeaaDoorProg
import Derived.Laws.IdiomStrings
import Derived.Lib.OwnBridge
import Derived.Lib.HexFns2
import Derived.Below
import Derived.Deep.Draws
import Derived.Deep.AppendLies
import Derived.Maps.AppendAt
import Derived.OwnWalk
import Derived.Laws.BytesArg
import Derived.Laws.MakeOwn
import Derived.Laws.OwnMore
import Derived.Deep.OwnRows
import Derived.Tactics
import Derived.Lib.ConvBytes
import Derived.Laws.Slices
import Derived.WalkKit
import Derived.KernelRfl
import Derived.RowKit3
import Derived.Deep.LoopGhost
import Derived.Deep.QuietTactic
import Derived.BigQuiet
import Derived.WideLaws
import Derived.Deep.DeepCutAuto
import Derived.Deep.CutBlock
import Derived.Deep.RegionHeld3
import Derived.Laws.Rows
import Derived.Lib.AppendStr
import Derived.ArgAppend
import Derived.Laws.IdiomCopy
import Derived.OrdersHeld
import Derived.Laws.BitsLemmas
import Derived.RowKit
import Derived.Test.YtpkhgapifnjbeaaDoorMB2
section
namespace Go.Proofs.YtpkhgapifnjbeaaDoor.D
open Go.RowKit Go.Proofs.YtpkhgapifnjbeaaDoor.G Go.Proofs.YtpkhgapifnjbeaaDoor.Rs Go.Proofs.YtpkhgapifnjbeaaDoorW.PrintWords Go.Proofs.YtpkhgapifnjbeaaDoorW.PrintLast Go.Proofs.YtpkhgapifnjbeaaDoorW.PrintMore
attribute [local go_sem] qc_ sc_ cd_ dd_ jc_ kc_ rc_ tc_
set_option linter.unusedVariables false
set_option linter.unusedSimpArgs false
mutual
def mb_.l0 : Nat → List Int → List Int → List Int → Int → Int → Option (List Int × Int × Int)
 | 0, _, _, _, _, _ => none
 | k + 1, x0, x5, x15, x16, x17 => if x17 < x16 then (if 0 ≤ x17 then (if x17 < (x15.length : Int) then (if (rd x15 x17) = (-1) then (if x5.length < 17592186044416 then (mb_.l0 k x0 (x5 ++ [x17]) x15 x16 (wrap64 (x17 + 1))) else (none)) else (mb_.l0 k x0 x5 x15 x16 (wrap64 (x17 + 1)))) else (none)) else (none)) else (mb_.l1 k x0 x5 0)
def mb_.l1 : Nat → List Int → List Int → Int → Option (List Int × Int × Int)
 | 0, _, _, _ => none
 | k + 1, x0, x5, x8 => if (wrap64 ((wrap64 (2 * x8)) + (x5.length : Int))) ≤ 6 then ((fn_.f x0 x5 x8).bind fun bt110 => (if bt110.2 = true then ((wi_.f x5 bt110.1).bind fun t114 => ((mf_.f x0 t114).bind fun t117 => (if (t117.length : Int) > 0 then (if 0 ≤ (wrap64 ((x0.length : Int) - 6)) then (if (wrap64 ((x0.length : Int) - 6)) ≤ (t117.length : Int) then (some ((t117.take ((wrap64 ((x0.length : Int) - 6)) : Int).toNat), x8, 0)) else (none)) else (none)) else (mb_.l1 k x0 x5 (wrap64 (x8 + 1)))))) else (mb_.l1 k x0 x5 (wrap64 (x8 + 1))))) else (some (([] : List Int), 0, 25))
end
def mb_.f (k : Nat) (l0 : List Int) : Option (List Int × Int × Int) := (nf_.f l0 (-1)).bind fun t105 => (if t105 = true then (mb_.l0 k l0 ([] : List Int) l0 (l0.length : Int) 0) else (some (([] : List Int), 0, 2)))
theorem mb_.td_ : ∀ k, (∀ y0 y1 y2 y3 y4, LeO (mb_.l0 k y0 y1 y2 y3 y4) (mb_.l0 (k + 1) y0 y1 y2 y3 y4)) ∧ (∀ y0 y1 y2, LeO (mb_.l1 k y0 y1 y2) (mb_.l1 (k + 1) y0 y1 y2))
 | 0 => ⟨fun _ _ _ _ _ r h => by simp [mb_.l0] at h, fun _ _ _ r h => by simp [mb_.l1] at h⟩
 | k + 1 => by
  obtain ⟨ih0, ih1⟩ := mb_.td_ k
  refine ⟨?_, ?_⟩
  ·intro y0 y1 y2 y3 y4
   unfold mb_.l0
   repeat' first
   | (with_reducible exact ih0 _ _ _ _ _)
   | (with_reducible exact ih1 _ _ _)
   | (with_reducible exact LeO.refl _)
   | (with_reducible exact LeO.none _)
   | (with_reducible refine LeO.ite ?_ ?_)
   | (with_reducible refine LeO.bind ?_ (fun _ => ?_))
   | exact ih0 _ _ _ _ _
   | exact ih1 _ _ _
   | exact LeO.none _
   | refine LeO.ite ?_ ?_
   | refine LeO.bind ?_ (fun _ => ?_)
  ·intro y0 y1 y2
   unfold mb_.l1
   repeat' first
   | (with_reducible exact ih0 _ _ _ _ _)
   | (with_reducible exact ih1 _ _ _)
   | (with_reducible exact LeO.refl _)
   | (with_reducible exact LeO.none _)
   | (with_reducible refine LeO.ite ?_ ?_)
   | (with_reducible refine LeO.bind ?_ (fun _ => ?_))
   | exact ih0 _ _ _ _ _
   | exact ih1 _ _ _
   | exact LeO.none _
   | refine LeO.ite ?_ ?_
   | refine LeO.bind ?_ (fun _ => ?_)
theorem mb_.mono : ∀ a0 k, LeO (mb_.f k a0) (mb_.f (k + 1) a0) := by
 intro a0 k
 obtain ⟨ih0, ih1⟩ := mb_.td_ k
 unfold mb_.f
 repeat' first
   | (with_reducible exact ih0 _ _ _ _ _)
   | (with_reducible exact ih1 _ _ _)
   | (with_reducible exact LeO.refl _)
   | (with_reducible exact LeO.none _)
   | (with_reducible refine LeO.ite ?_ ?_)
   | (with_reducible refine LeO.bind ?_ (fun _ => ?_))
   | exact ih0 _ _ _ _ _
   | exact ih1 _ _ _
   | exact LeO.none _
   | refine LeO.ite ?_ ?_
   | refine LeO.bind ?_ (fun _ => ?_)
set_option maxHeartbeats 8000000 in
set_option maxRecDepth 100000 in
theorem mb_.calls (k : Nat) (A0 : Option Addr) (c0 : Nat) (l0 : List Int) (r1 : List Int) (r2 : Int) (r3 : Int) (w : World) (hr0 : Kd.C (Kd.int .i64) w A0 l0.length l0) (hc0 : l0.length ≤ c0) (h : mb_.f k l0 = some (r1, r2, r3)) :
  Calls Tryd.prog 32 #[.slice A0 l0.length c0] w fun e w' => ∃ v0_ : Value, e = .returned (.tuple #[v0_, .int .i64 r2, .int .i64 r3]) ∧ Kd.R (Kd.int .i64) 3 w' w.heap.size (fun _ => True) v0_ r1 ∧ Below w.heap.size w w' := by
 have HR0 := ba_.mk hr0
 have HC0 := ba_.mk hc0
 clear hr0 hc0
 have HB := ba_.mk (Below.refl w.heap.size w)
 have qN : ∀ (w : World) (a : Option Addr) (n c n' c' : Nat), (binOp .neq 22 (.slice a n c) (.slice none n' c')).run Tryd.prog w = .ok (.bool (!a.isNone)) w := fun w a n c n' c' => run_neq_slice_nil_any w _ _ a n c n' c' Tryd.underlying22
 have H : ((nf_.f l0 (-1)).bind fun t105 => (if t105 = true then (mb_.l0 k l0 ([] : List Int) l0 (l0.length : Int) 0) else (some (([] : List Int), 0, 2)))) = some (r1, r2, r3) := h
 clear h
 replace H := Option.bind_eq_some_iff.mp H
 obtain ⟨t105, A20, H⟩ := H
 replace H : (if t105 = true then (mb_.l0 k l0 ([] : List Int) l0 (l0.length : Int) 0) else (some (([] : List Int), 0, 2))) = some (r1, r2, r3) := H
 have A2 := ba_.mk A20
 clear A20
 by_cases c3 : t105 = true
 ·subst c3
  have H1 : (mb_.l0 k l0 ([] : List Int) l0 (l0.length : Int) 0) = some (r1, r2, r3) := by rw [if_pos rfl] at H; exact H
  clear H
  have H := H1
  clear H1
  have H' := ba_.mk H
  clear H
  go_enter Tryd.func32, Tryd.ntmps32
  go_wp2_with (first | ((with_reducible refine la_ (f := 38) rfl ?_); refine wb_ (some 13) rfl rfl Tryd.func38 (by kernel_rfl) rfl #[.slice A0 l0.length c0, .int .i64 (-1)] rfl (by (try simp only [List.map_toArray, List.map_cons, List.map_nil]); first | done | rfl | (simp only [List.length_drop, List.length_take]; rfl)) ?_; (with_reducible refine (nf_.calls _ _ l0 (-1) true _ ?side1 ?side2 A2.out).mono ?_); (case side1 => repeat (first | exact HR0.out | (with_reducible refine Kd.zc_ ?_ _) | (with_reducible refine Kd.ad_ ?_ _) | (with_reducible refine Kd.md_ ?_))); (case side2 => exact HC0.out); rintro e w4 ⟨rfl, hb⟩; refine ⟨_, rfl, ?_⟩; have n0_ := ba_.mk (pa_ (by repeat (first | (with_reducible first | exact HB.out | apply da_ | apply aa_ | apply ca_) | exact HB.out)) hb); clear HB; have HB := n0_; clear n0_; (try clear hb); (try clear hb2); (try clear hk); (try clear hi)))
  go_loopg [5, 17] k (fun kq v5 v17 w' => ∃ (x5_1 : List Int) (x17_1 : Int), v17 = .int .i64 x17_1 ∧ ba_ (mb_.l0 kq l0 x5_1 l0 (l0.length : Int) x17_1 = some (r1, r2, r3)) ∧ ba_ (kq ≤ k) ∧ ba_ (Kd.R (Kd.int .i64) 3 w' w.heap.size (fun _ => True) v5 x5_1) ∧ ba_ (Below w.heap.size w w'))
  case atStart => exact ⟨(([] : List Int)), (0), (by first | rfl | (simp; done) | (simp [*]; done)), H', ⟨Nat.le_refl _⟩, ⟨by first | exact Kd.ue_ _ _ _ _ _ | exact Kd.qg_ _ _ _ _ _ | exact Kd.ug_ _ _ _ _ _ | exact Kd.rg_ _ _ _ _ _ | exact Kd.tg_ _ _ _ _ _⟩, ⟨by repeat (first | (with_reducible first | exact HB.out | apply da_ | apply aa_ | apply ca_) | exact HB.out)⟩⟩
  case round =>
   clear H'
   try clear p2
   try clear c3
   obtain ⟨x5_1, x17_1, rfl, HA, HK1, HO_5, HB⟩ := hrel
   cases gk with
   | zero => exact absurd HA.out (by simp [mb_.l0])
   | succ k1 =>
    have H := HA.out
    clear HA
    simp only [mb_.l0] at H
    by_cases c5 : x17_1 < (l0.length : Int)
    ·rw [if_pos c5] at H
     have c5b0 : decide (x17_1 < (l0.length : Int)) = true := decide_eq_true c5
     clear c5
     by_cases c6 : 0 ≤ x17_1
     ·rw [if_pos c6] at H
      have c6b0 : decide (0 ≤ x17_1) = true := decide_eq_true c6
      clear c6
      by_cases c7 : x17_1 < (l0.length : Int)
      ·rw [if_pos c7] at H
       have c7b0 : decide (x17_1 < (l0.length : Int)) = true := decide_eq_true c7
       clear c7
       by_cases c8 : (rd l0 x17_1) = (-1)
       ·rw [if_pos c8] at H
        have c8b0 : ((rd l0 x17_1) == (-1)) = true := beq_iff_eq.mpr c8
        have c8b1 : ((rd l0 x17_1) != (-1)) = false := bne_eq_false_iff_eq.mpr c8
        clear c8
        by_cases c9 : x5_1.length < 17592186044416
        ·rw [if_pos c9] at H
         have LMc9 := ba_.mk c9
         clear c9
         obtain ⟨y107, hy107⟩ : ∃ y_ : List Int, y_ = (x5_1 ++ [x17_1]) := ⟨_, rfl⟩
         replace H : (mb_.l0 k1 l0 y107 l0 (l0.length : Int) (wrap64 (x17_1 + 1))) = some (r1, r2, r3) := by first | (rw [hy107]; with_reducible exact H) | (have H2_ := (Option.bind_some _ _).symm.trans H; rw [hy107]; with_reducible exact H2_) | (have H2_ := (Option.bind_some _ _).symm.trans H; with_reducible exact H2_) | with_reducible exact H | (rw [hy107]; exact H) | exact H
         have Ny107 := ba_.mk hy107
         clear hy107
         have H' := ba_.mk H
         clear H
         have p106 : 0 ≤ (x17_1 : Int) := of_decide_eq_true (by first | (with_reducible assumption) | assumption)
         have q106 : x17_1 < (l0.length : Int) := of_decide_eq_true (by first | (with_reducible assumption) | assumption)
         obtain ⟨ad106, e106, hx106_0⟩ := Kd.id_ HR0.out x17_1 p106 q106
         cases e106
         replace hx106_0 := (HB.out.cell (World.block_lt_of_cell? w _ hx106_0)).trans hx106_0
         replace p106 := eq_true p106
         replace q106 := eq_true q106
         go_wp2_with (first | ((with_reducible refine pd_ (b := .append) (xs := #[.tmp 24, .tmp 26]) rfl ?_); at_builtin; refine Kd.af_ (Kd.int .i64) (w0 := w) w.heap.size rfl (.tmp 24) (.tmp 26) 22 3 (.int .i64 0) 8 rfl Tryd.underlying22 ii_ rfl (by decide) (by omega) u5 x5_1 x17_1 [.int .i64 x17_1] (fun _ => True) (fun _ => False) rfl rfl ?aP (fun _ hk => hk.elim) ?aF ?aO ?aB ?aS ?aL ?_; (case aP => exact rfl); (case aB => exact (by repeat (first | (with_reducible first | exact HB.out | apply da_ | apply aa_ | apply ca_) | exact HB.out))); (case aF => exact (fun _ _ => trivial)); (case aO => exact (by (with_reducible repeat (first | apply Kd.ta_ | apply Kd.ua_ | apply Kd.db_)); exact HO_5.out)); (case aS => exact (wa_ (by repeat (first | (with_reducible first | exact HB.out | apply da_ | apply aa_ | apply ca_) | exact HB.out)))); (case aL => have := LMc9.out; omega); intro v108 w10 ho hb hg hat; rw [← Ny107.out] at ho; have n0_ := ba_.mk (hb); have n1_ := ba_.mk (ho); clear HB; clear HO_5; have HB := n0_; have HO109 := n1_; clear n0_ n1_; clear ho hb hg hat))
         go_roundg k1
         case measure => have := HK1.out; omega
         case rel => exact ⟨(y107), (wrap64 (x17_1 + 1)), (by first | rfl | (simp; done) | (simp [*]; done)), H', ⟨by have := HK1.out; omega⟩, ⟨by (with_reducible repeat (first | apply Kd.ta_ | apply Kd.ua_ | apply Kd.db_)); exact HO109.out⟩, ⟨by repeat (first | (with_reducible first | exact HB.out | apply da_ | apply aa_ | apply ca_) | exact HB.out)⟩⟩
        ·rw [if_neg c9] at H
         exact absurd H (by simp)
       ·rw [if_neg c8] at H
        have c8b0 : ((rd l0 x17_1) == (-1)) = false := beq_eq_false_iff_ne.mpr c8
        have c8b1 : ((rd l0 x17_1) != (-1)) = true := bne_iff_ne.mpr c8
        have H' := ba_.mk H
        clear H
        have p106 : 0 ≤ (x17_1 : Int) := of_decide_eq_true (by first | (with_reducible assumption) | assumption)
        have q106 : x17_1 < (l0.length : Int) := of_decide_eq_true (by first | (with_reducible assumption) | assumption)
        obtain ⟨ad106, e106, hx106_0⟩ := Kd.id_ HR0.out x17_1 p106 q106
        cases e106
        replace hx106_0 := (HB.out.cell (World.block_lt_of_cell? w _ hx106_0)).trans hx106_0
        replace p106 := eq_true p106
        replace q106 := eq_true q106
        go_wp2
        go_roundg k1
        case measure => have := HK1.out; omega
        case rel => exact ⟨(x5_1), (wrap64 (x17_1 + 1)), (by first | rfl | (simp; done) | (simp [*]; done)), H', ⟨by have := HK1.out; omega⟩, ⟨by (with_reducible repeat (first | apply Kd.ta_ | apply Kd.ua_ | apply Kd.db_)); exact HO_5.out⟩, ⟨by repeat (first | (with_reducible first | exact HB.out | apply da_ | apply aa_ | apply ca_) | exact HB.out)⟩⟩
      ·rw [if_neg c7] at H
       exact absurd H (by simp)
     ·rw [if_neg c6] at H
      exact absurd H (by simp)
    ·rw [if_neg c5] at H
     have c5b0 : decide (x17_1 < (l0.length : Int)) = false := decide_eq_false c5
     clear c5
     have H' := ba_.mk H
     clear H
     go_wp2
     go_loopg [8] k1 (fun kq v8 w' => ∃ (x8_2 : Int), v8 = .int .i64 x8_2 ∧ ba_ (mb_.l1 kq l0 x5_1 x8_2 = some (r1, r2, r3)) ∧ ba_ (kq ≤ k1) ∧ ba_ (Kd.R (Kd.int .i64) 3 w' w.heap.size (fun _ => True) u5 x5_1) ∧ ba_ (Below w.heap.size w w'))
     case atStart => exact ⟨(0), (by first | rfl | (simp; done) | (simp [*]; done)), H', ⟨Nat.le_refl _⟩, ⟨by (with_reducible repeat (first | apply Kd.ta_ | apply Kd.ua_ | apply Kd.db_)); exact HO_5.out⟩, ⟨by repeat (first | (with_reducible first | exact HB.out | apply da_ | apply aa_ | apply ca_) | exact HB.out)⟩⟩
     case round =>
      clear H'
      try clear p1
      try clear q1
      try clear hx1
      try clear p2
      try clear c3
      try clear c5
      try clear c5b0
      try clear c6
      try clear c6b0
      try clear p6
      try clear c7
      try clear c7b0
      try clear c8
      try clear c8b0
      try clear c8b1
      try clear c9
      try clear p10
      try clear q10
      try clear hx10
      try clear hx106_0
      try clear p106
      try clear p2
      try clear q106
      obtain ⟨x8_2, rfl, HA, HK2, HO_5, HB⟩ := hrel
      cases gk with
      | zero => exact absurd HA.out (by simp [mb_.l1])
      | succ k2 =>
       have H := HA.out
       clear HA
       simp only [mb_.l1] at H
       by_cases c11 : (wrap64 ((wrap64 (2 * x8_2)) + (x5_1.length : Int))) ≤ 6
       ·rw [if_pos c11] at H
        have c11b0 : decide ((wrap64 ((wrap64 (2 * x8_2)) + (x5_1.length : Int))) ≤ 6) = true := decide_eq_true c11
        clear c11
        replace H := Option.bind_eq_some_iff.mp H
        obtain ⟨⟨t110, t111⟩, A123, H⟩ := H
        replace H : (if t111 = true then ((wi_.f x5_1 t110).bind fun t114 => ((mf_.f l0 t114).bind fun t117 => (if (t117.length : Int) > 0 then (if 0 ≤ (wrap64 ((l0.length : Int) - 6)) then (if (wrap64 ((l0.length : Int) - 6)) ≤ (t117.length : Int) then (some ((t117.take ((wrap64 ((l0.length : Int) - 6)) : Int).toNat), x8_2, 0)) else (none)) else (none)) else (mb_.l1 k2 l0 x5_1 (wrap64 (x8_2 + 1)))))) else (mb_.l1 k2 l0 x5_1 (wrap64 (x8_2 + 1)))) = some (r1, r2, r3) := H
        have A12 := ba_.mk A123
        clear A123
        by_cases c13 : t111 = true
        ·subst c13
         have H1 : ((wi_.f x5_1 t110).bind fun t114 => ((mf_.f l0 t114).bind fun t117 => (if (t117.length : Int) > 0 then (if 0 ≤ (wrap64 ((l0.length : Int) - 6)) then (if (wrap64 ((l0.length : Int) - 6)) ≤ (t117.length : Int) then (some ((t117.take ((wrap64 ((l0.length : Int) - 6)) : Int).toNat), x8_2, 0)) else (none)) else (none)) else (mb_.l1 k2 l0 x5_1 (wrap64 (x8_2 + 1)))))) = some (r1, r2, r3) := by rw [if_pos rfl] at H; exact H
         clear H
         have H := H1
         clear H1
         replace H := Option.bind_eq_some_iff.mp H
         obtain ⟨t114, A143, H⟩ := H
         replace H : ((mf_.f l0 t114).bind fun t117 => (if (t117.length : Int) > 0 then (if 0 ≤ (wrap64 ((l0.length : Int) - 6)) then (if (wrap64 ((l0.length : Int) - 6)) ≤ (t117.length : Int) then (some ((t117.take ((wrap64 ((l0.length : Int) - 6)) : Int).toNat), x8_2, 0)) else (none)) else (none)) else (mb_.l1 k2 l0 x5_1 (wrap64 (x8_2 + 1))))) = some (r1, r2, r3) := H
         have A14 := ba_.mk A143
         clear A143
         replace H := Option.bind_eq_some_iff.mp H
         obtain ⟨t117, A153, H⟩ := H
         replace H : (if (t117.length : Int) > 0 then (if 0 ≤ (wrap64 ((l0.length : Int) - 6)) then (if (wrap64 ((l0.length : Int) - 6)) ≤ (t117.length : Int) then (some ((t117.take ((wrap64 ((l0.length : Int) - 6)) : Int).toNat), x8_2, 0)) else (none)) else (none)) else (mb_.l1 k2 l0 x5_1 (wrap64 (x8_2 + 1)))) = some (r1, r2, r3) := H
         have A15 := ba_.mk A153
         clear A153
         by_cases c16 : (t117.length : Int) > 0
         ·rw [if_pos c16] at H
          have c16b0 : decide (0 < (t117.length : Int)) = true := decide_eq_true c16
          have c16b1 : decide (0 < t117.length) = true := decide_eq_true (by omega)
          clear c16
          obtain ⟨ji17, hji17⟩ : ∃ j_ : Int, (wrap64 ((l0.length : Int) - 6)) = j_ := ⟨_, rfl⟩
          replace H : (if 0 ≤ (ji17) then (if (ji17) ≤ (t117.length : Int) then (some ((t117.take ((ji17) : Int).toNat), x8_2, 0)) else (none)) else (none)) = some (r1, r2, r3) := by first | (rw [hji17] at H; exact H) | (simp only [hji17] at H ⊢; exact H)
          (try rw [hji17] at A12)
          (try rw [hji17] at A14)
          (try rw [hji17] at A15)
          have hji17w : (IntKind.i64.wrap ((l0.length : Int) - 6)) = ji17 := (fb_ _).trans hji17
          by_cases c18 : 0 ≤ (ji17)
          ·rw [if_pos c18] at H
           have c18b0 := eq_true c18
           have c18b1 : decide (0 ≤ (ji17)) = true := decide_eq_true c18
           clear c18
           by_cases c19 : (ji17) ≤ (t117.length : Int)
           ·rw [if_pos c19] at H
            have c19b0 := eq_true c19
            have c19b1 : decide ((ji17) ≤ (t117.length : Int)) = true := decide_eq_true c19
            clear c19
            obtain ⟨y120, hy120⟩ : ∃ y_ : List Int, y_ = (t117.take ((ji17) : Int).toNat) := ⟨_, rfl⟩
            replace H : (some (y120, x8_2, 0)) = some (r1, r2, r3) := by first | (rw [hy120]; with_reducible exact H) | (have H2_ := (Option.bind_some _ _).symm.trans H; rw [hy120]; with_reducible exact H2_) | (have H2_ := (Option.bind_some _ _).symm.trans H; with_reducible exact H2_) | with_reducible exact H | (rw [hy120]; exact H) | exact H
            have Ny120 := ba_.mk hy120
            clear hy120
            simp only [Option.some.injEq, Prod.mk.injEq] at H
            obtain ⟨rfl, rfl, rfl⟩ := H
            obtain ⟨Ao20, co20, eo20⟩ := Kd.nc_ HO_5.out
            subst eo20
            go_wp2_with (first | ((with_reducible refine la_ (f := 49) rfl ?_); refine wb_ (some 41) rfl rfl Tryd.func49 (by kernel_rfl) rfl #[.slice A0 l0.length c0, .slice Ao20 x5_1.length co20, .int .i64 x8_2] rfl (by (try simp only [List.map_toArray, List.map_cons, List.map_nil]); first | done | rfl | (simp only [List.length_drop, List.length_take]; rfl)) ?_; (with_reducible refine (fn_.calls _ _ l0 _ _ x5_1 x8_2 t110 true _ ?side1 ?side2 ?side3 ?side4 A12.out).mono ?_); (case side1 => repeat (first | exact (Kd.rd_ HR0.out HB.out) | (with_reducible refine Kd.zc_ ?_ _) | (with_reducible refine Kd.ad_ ?_ _) | (with_reducible refine Kd.md_ ?_))); (case side2 => exact HC0.out); (case side3 => repeat (first | exact (Kd.lb_ HO_5.out).2.2 | (with_reducible refine Kd.zc_ ?_ _) | (with_reducible refine Kd.ad_ ?_ _) | (with_reducible refine Kd.md_ ?_))); (case side4 => exact (Kd.lb_ HO_5.out).2.1); rintro e w21 ⟨v112, rfl, ho0, hb⟩; refine ⟨_, rfl, ?_⟩; have n0_ := ba_.mk (Kd.gd_ (by (with_reducible repeat (first | apply Kd.ta_ | apply Kd.ua_ | apply Kd.db_)); exact HO_5.out) (Kd.be_ ho0) hb); have n1_ := ba_.mk (Kd.wc_ (Kd.yd_ ho0 (Kd.R_lt (by (with_reducible repeat (first | apply Kd.ta_ | apply Kd.ua_ | apply Kd.db_)); exact HO_5.out))) (wa_ (by repeat (first | (with_reducible first | exact HB.out | apply da_ | apply aa_ | apply ca_) | exact HB.out)))); have n2_ := ba_.mk (pa_ (by repeat (first | (with_reducible first | exact HB.out | apply da_ | apply aa_ | apply ca_) | exact HB.out)) hb); clear HO_5; clear HB; have HO_5 := n0_; have HO113 := n1_; have HB := n2_; clear n0_ n1_ n2_; (try clear hb); (try clear hb2); (try clear hk); (try clear hi); (try clear ho0); obtain ⟨Ao22, co22, eo22⟩ := Kd.nc_ HO113.out; subst eo22) | ((with_reducible refine hc_ (N := 49) rfl ?_); refine ag_ (v := .slice (some ⟨w21.heap.size, 0, none⟩) 2 2) (w1 := w21.alloc (.cells #[.slice Ao20 x5_1.length co20, .slice Ao22 t110.length co22] 22)) rfl ?hr ?_; (case hr => first | (go_simp; done) | (go_simp; rfl))) | ((with_reducible refine la_ (f := 36) rfl ?_); refine wb_ (some 50) rfl rfl Tryd.func36 (by kernel_rfl) rfl #[.slice (some ⟨w21.heap.size, 0, none⟩) 2 2] rfl (by (try simp only [List.map_toArray, List.map_cons, List.map_nil]); first | done | rfl) ?_; (refine (ng_ Ao20 co20 x5_1 Ao22 co22 t110 w21 (Kd.lb_ HO_5.out).2.2 (Kd.lb_ HO_5.out).2.1 (Kd.lb_ HO113.out).2.2 (Kd.lb_ HO113.out).2.1 (by have := (wi_.some A14.out).2; omega)).mono ?_); rintro e w23 ⟨v115, rfl, ho0, hb⟩; rw [← (wi_.some A14.out).1] at ho0; refine ⟨_, rfl, ?_⟩; have n0_ := ba_.mk (Kd.gd_ (by (with_reducible repeat (first | apply Kd.ta_ | apply Kd.ua_ | apply Kd.db_)); exact HO_5.out) (Kd.be_ ho0) hb); have n1_ := ba_.mk (Kd.gd_ (by (with_reducible repeat (first | apply Kd.ta_ | apply Kd.ua_ | apply Kd.db_)); exact HO113.out) (Kd.be_ ho0) hb); have n2_ := ba_.mk (Kd.wc_ (Kd.yd_ (Kd.yd_ ho0 (Kd.R_lt (by (with_reducible repeat (first | apply Kd.ta_ | apply Kd.ua_ | apply Kd.db_)); exact HO_5.out))) (Kd.R_lt (by (with_reducible repeat (first | apply Kd.ta_ | apply Kd.ua_ | apply Kd.db_)); exact HO113.out))) (wa_ (by repeat (first | (with_reducible first | exact HB.out | apply da_ | apply aa_ | apply ca_) | exact HB.out)))); have n3_ := ba_.mk (pa_ (by repeat (first | (with_reducible first | exact HB.out | apply da_ | apply aa_ | apply ca_) | exact HB.out)) hb); clear HO_5; clear HO113; clear HB; have HO_5 := n0_; have HO113 := n1_; have HO116 := n2_; have HB := n3_; clear n0_ n1_ n2_ n3_; (try clear hb); (try clear hb2); (try clear hk); (try clear hi); (try clear ho0); obtain ⟨Ao24, co24, eo24⟩ := Kd.nc_ HO116.out; subst eo24) | ((with_reducible refine la_ (f := 40) rfl ?_); refine wb_ (some 51) rfl rfl Tryd.func40 (by kernel_rfl) rfl #[.slice A0 l0.length c0, .slice Ao24 t114.length co24] rfl (by (try simp only [List.map_toArray, List.map_cons, List.map_nil]); first | done | rfl | (simp only [List.length_drop, List.length_take]; rfl)) ?_; (with_reducible refine (mf_.do_ _ _ l0 _ _ t114 t117 _ ?side1 ?side2 ?side3 ?side4 A15.out).mono ?_); (case side1 => repeat (first | exact (Kd.rd_ HR0.out HB.out) | (with_reducible refine Kd.zc_ ?_ _) | (with_reducible refine Kd.ad_ ?_ _) | (with_reducible refine Kd.md_ ?_))); (case side2 => exact HC0.out); (case side3 => repeat (first | exact (Kd.lb_ HO116.out).2.2 | (with_reducible refine Kd.zc_ ?_ _) | (with_reducible refine Kd.ad_ ?_ _) | (with_reducible refine Kd.md_ ?_))); (case side4 => exact (Kd.lb_ HO116.out).2.1); rintro e w25 ⟨v118, rfl, ho0, hb, hnil⟩; refine ⟨_, rfl, ?_⟩; have HNIL := ba_.mk hnil; clear hnil; have n0_ := ba_.mk (Kd.gd_ (by (with_reducible repeat (first | apply Kd.ta_ | apply Kd.ua_ | apply Kd.db_)); exact HO_5.out) (Kd.be_ ho0) hb); have n1_ := ba_.mk (Kd.gd_ (by (with_reducible repeat (first | apply Kd.ta_ | apply Kd.ua_ | apply Kd.db_)); exact HO113.out) (Kd.be_ ho0) hb); have n2_ := ba_.mk (Kd.gd_ (by (with_reducible repeat (first | apply Kd.ta_ | apply Kd.ua_ | apply Kd.db_)); exact HO116.out) (Kd.be_ ho0) hb); have n3_ := ba_.mk (Kd.wc_ (Kd.yd_ (Kd.yd_ (Kd.yd_ ho0 (Kd.R_lt (by (with_reducible repeat (first | apply Kd.ta_ | apply Kd.ua_ | apply Kd.db_)); exact HO_5.out))) (Kd.R_lt (by (with_reducible repeat (first | apply Kd.ta_ | apply Kd.ua_ | apply Kd.db_)); exact HO113.out))) (Kd.R_lt (by (with_reducible repeat (first | apply Kd.ta_ | apply Kd.ua_ | apply Kd.db_)); exact HO116.out))) (wa_ (by repeat (first | (with_reducible first | exact HB.out | apply da_ | apply aa_ | apply ca_) | exact HB.out)))); have n4_ := ba_.mk (pa_ (by repeat (first | (with_reducible first | exact HB.out | apply da_ | apply aa_ | apply ca_) | exact HB.out)) hb); clear HO_5; clear HO113; clear HO116; clear HB; have HO_5 := n0_; have HO113 := n1_; have HO116 := n2_; have HO119 := n3_; have HB := n4_; clear n0_ n1_ n2_ n3_ n4_; (try clear hb); (try clear hb2); (try clear hk); (try clear hi); (try clear ho0); obtain ⟨Ao26, co26, eo26⟩ := Kd.nc_ HO119.out; subst eo26; obtain ⟨g_, hg_⟩ := in_ HO119.out (by have := of_decide_eq_true c16b1; omega); subst hg_; have q27 : ((ji17) : Int) ≤ ((t117.length : Int) : Int) := of_decide_eq_true (by first | (with_reducible assumption) | assumption); obtain ⟨i027, hi027, _, hsz27, _⟩ := info_parts ii_; have hcut27 := cut_to (P := Tryd.prog) 22 3 .i64 Tryd.underlying22 hi027 (some g_) t117.length co26 (ji17) (of_decide_eq_true (by first | (with_reducible assumption) | assumption)) q27 (Kd.lb_ HO119.out).2.1; have hr27 := Kd.vq_ (m := ((ji17) : Int).toNat) HO119.out (by omega); have hy27 : y120.length = ((ji17) : Int).toNat := (by rw [Ny120.out, List.length_take]; omega); rw [← Ny120.out] at hr27; rw [← hy27] at hr27 hcut27; clear hy27 hi027 hsz27 HO119; have HO122 := ba_.mk hr27; clear hr27; replace q27 := eq_true q27))
            go_ret3
            exact ⟨_, by first | rfl | (simp [xa_, ya_] <;> rfl) | (simp only [← hji17]; first | rfl | (simp [xa_, ya_] <;> rfl)) | (simp [*, xa_, ya_] <;> rfl), by (with_reducible repeat (first | apply Kd.ta_ | apply Kd.ua_ | apply Kd.db_)); exact Kd.uc_ HO122.out (fun _ hk => trivial), by repeat (first | (with_reducible first | exact HB.out | apply da_ | apply aa_ | apply ca_) | exact HB.out)⟩
           ·rw [if_neg c19] at H
            exact absurd H (by simp)
          ·rw [if_neg c18] at H
           exact absurd H (by simp)
         ·rw [if_neg c16] at H
          have c16b0 : decide (0 < (t117.length : Int)) = false := decide_eq_false c16
          have c16b1 : decide (0 < t117.length) = false := decide_eq_false (by omega)
          clear c16
          have H' := ba_.mk H
          clear H
          obtain ⟨Ao28, co28, eo28⟩ := Kd.nc_ HO_5.out
          subst eo28
          go_wp2_with (first | ((with_reducible refine la_ (f := 49) rfl ?_); refine wb_ (some 41) rfl rfl Tryd.func49 (by kernel_rfl) rfl #[.slice A0 l0.length c0, .slice Ao28 x5_1.length co28, .int .i64 x8_2] rfl (by (try simp only [List.map_toArray, List.map_cons, List.map_nil]); first | done | rfl | (simp only [List.length_drop, List.length_take]; rfl)) ?_; (with_reducible refine (fn_.calls _ _ l0 _ _ x5_1 x8_2 t110 true _ ?side1 ?side2 ?side3 ?side4 A12.out).mono ?_); (case side1 => repeat (first | exact (Kd.rd_ HR0.out HB.out) | (with_reducible refine Kd.zc_ ?_ _) | (with_reducible refine Kd.ad_ ?_ _) | (with_reducible refine Kd.md_ ?_))); (case side2 => exact HC0.out); (case side3 => repeat (first | exact (Kd.lb_ HO_5.out).2.2 | (with_reducible refine Kd.zc_ ?_ _) | (with_reducible refine Kd.ad_ ?_ _) | (with_reducible refine Kd.md_ ?_))); (case side4 => exact (Kd.lb_ HO_5.out).2.1); rintro e w29 ⟨v112, rfl, ho0, hb⟩; refine ⟨_, rfl, ?_⟩; have n0_ := ba_.mk (Kd.gd_ (by (with_reducible repeat (first | apply Kd.ta_ | apply Kd.ua_ | apply Kd.db_)); exact HO_5.out) (Kd.be_ ho0) hb); have n1_ := ba_.mk (Kd.wc_ (Kd.yd_ ho0 (Kd.R_lt (by (with_reducible repeat (first | apply Kd.ta_ | apply Kd.ua_ | apply Kd.db_)); exact HO_5.out))) (wa_ (by repeat (first | (with_reducible first | exact HB.out | apply da_ | apply aa_ | apply ca_) | exact HB.out)))); have n2_ := ba_.mk (pa_ (by repeat (first | (with_reducible first | exact HB.out | apply da_ | apply aa_ | apply ca_) | exact HB.out)) hb); clear HO_5; clear HB; have HO_5 := n0_; have HO113 := n1_; have HB := n2_; clear n0_ n1_ n2_; (try clear hb); (try clear hb2); (try clear hk); (try clear hi); (try clear ho0); obtain ⟨Ao30, co30, eo30⟩ := Kd.nc_ HO113.out; subst eo30) | ((with_reducible refine hc_ (N := 49) rfl ?_); refine ag_ (v := .slice (some ⟨w29.heap.size, 0, none⟩) 2 2) (w1 := w29.alloc (.cells #[.slice Ao28 x5_1.length co28, .slice Ao30 t110.length co30] 22)) rfl ?hr ?_; (case hr => first | (go_simp; done) | (go_simp; rfl))) | ((with_reducible refine la_ (f := 36) rfl ?_); refine wb_ (some 50) rfl rfl Tryd.func36 (by kernel_rfl) rfl #[.slice (some ⟨w29.heap.size, 0, none⟩) 2 2] rfl (by (try simp only [List.map_toArray, List.map_cons, List.map_nil]); first | done | rfl) ?_; (refine (ng_ Ao28 co28 x5_1 Ao30 co30 t110 w29 (Kd.lb_ HO_5.out).2.2 (Kd.lb_ HO_5.out).2.1 (Kd.lb_ HO113.out).2.2 (Kd.lb_ HO113.out).2.1 (by have := (wi_.some A14.out).2; omega)).mono ?_); rintro e w31 ⟨v115, rfl, ho0, hb⟩; rw [← (wi_.some A14.out).1] at ho0; refine ⟨_, rfl, ?_⟩; have n0_ := ba_.mk (Kd.gd_ (by (with_reducible repeat (first | apply Kd.ta_ | apply Kd.ua_ | apply Kd.db_)); exact HO_5.out) (Kd.be_ ho0) hb); have n1_ := ba_.mk (Kd.gd_ (by (with_reducible repeat (first | apply Kd.ta_ | apply Kd.ua_ | apply Kd.db_)); exact HO113.out) (Kd.be_ ho0) hb); have n2_ := ba_.mk (Kd.wc_ (Kd.yd_ (Kd.yd_ ho0 (Kd.R_lt (by (with_reducible repeat (first | apply Kd.ta_ | apply Kd.ua_ | apply Kd.db_)); exact HO_5.out))) (Kd.R_lt (by (with_reducible repeat (first | apply Kd.ta_ | apply Kd.ua_ | apply Kd.db_)); exact HO113.out))) (wa_ (by repeat (first | (with_reducible first | exact HB.out | apply da_ | apply aa_ | apply ca_) | exact HB.out)))); have n3_ := ba_.mk (pa_ (by repeat (first | (with_reducible first | exact HB.out | apply da_ | apply aa_ | apply ca_) | exact HB.out)) hb); clear HO_5; clear HO113; clear HB; have HO_5 := n0_; have HO113 := n1_; have HO116 := n2_; have HB := n3_; clear n0_ n1_ n2_ n3_; (try clear hb); (try clear hb2); (try clear hk); (try clear hi); (try clear ho0); obtain ⟨Ao32, co32, eo32⟩ := Kd.nc_ HO116.out; subst eo32) | ((with_reducible refine la_ (f := 40) rfl ?_); refine wb_ (some 51) rfl rfl Tryd.func40 (by kernel_rfl) rfl #[.slice A0 l0.length c0, .slice Ao32 t114.length co32] rfl (by (try simp only [List.map_toArray, List.map_cons, List.map_nil]); first | done | rfl | (simp only [List.length_drop, List.length_take]; rfl)) ?_; (with_reducible refine (mf_.do_ _ _ l0 _ _ t114 t117 _ ?side1 ?side2 ?side3 ?side4 A15.out).mono ?_); (case side1 => repeat (first | exact (Kd.rd_ HR0.out HB.out) | (with_reducible refine Kd.zc_ ?_ _) | (with_reducible refine Kd.ad_ ?_ _) | (with_reducible refine Kd.md_ ?_))); (case side2 => exact HC0.out); (case side3 => repeat (first | exact (Kd.lb_ HO116.out).2.2 | (with_reducible refine Kd.zc_ ?_ _) | (with_reducible refine Kd.ad_ ?_ _) | (with_reducible refine Kd.md_ ?_))); (case side4 => exact (Kd.lb_ HO116.out).2.1); rintro e w33 ⟨v118, rfl, ho0, hb, hnil⟩; refine ⟨_, rfl, ?_⟩; have HNIL := ba_.mk hnil; clear hnil; have n0_ := ba_.mk (Kd.gd_ (by (with_reducible repeat (first | apply Kd.ta_ | apply Kd.ua_ | apply Kd.db_)); exact HO_5.out) (Kd.be_ ho0) hb); have n1_ := ba_.mk (Kd.gd_ (by (with_reducible repeat (first | apply Kd.ta_ | apply Kd.ua_ | apply Kd.db_)); exact HO113.out) (Kd.be_ ho0) hb); have n2_ := ba_.mk (Kd.gd_ (by (with_reducible repeat (first | apply Kd.ta_ | apply Kd.ua_ | apply Kd.db_)); exact HO116.out) (Kd.be_ ho0) hb); have n3_ := ba_.mk (Kd.wc_ (Kd.yd_ (Kd.yd_ (Kd.yd_ ho0 (Kd.R_lt (by (with_reducible repeat (first | apply Kd.ta_ | apply Kd.ua_ | apply Kd.db_)); exact HO_5.out))) (Kd.R_lt (by (with_reducible repeat (first | apply Kd.ta_ | apply Kd.ua_ | apply Kd.db_)); exact HO113.out))) (Kd.R_lt (by (with_reducible repeat (first | apply Kd.ta_ | apply Kd.ua_ | apply Kd.db_)); exact HO116.out))) (wa_ (by repeat (first | (with_reducible first | exact HB.out | apply da_ | apply aa_ | apply ca_) | exact HB.out)))); have n4_ := ba_.mk (pa_ (by repeat (first | (with_reducible first | exact HB.out | apply da_ | apply aa_ | apply ca_) | exact HB.out)) hb); clear HO_5; clear HO113; clear HO116; clear HB; have HO_5 := n0_; have HO113 := n1_; have HO116 := n2_; have HO119 := n3_; have HB := n4_; clear n0_ n1_ n2_ n3_ n4_; (try clear hb); (try clear hb2); (try clear hk); (try clear hi); (try clear ho0); have en_ := HNIL.out (ms_ A2.out) (List.eq_nil_of_length_eq_zero (by have := of_decide_eq_false c16b1; omega)); subst en_))
          go_roundg k2
          case measure => have := HK1.out; have := HK2.out; omega
          case rel => exact ⟨(wrap64 (x8_2 + 1)), (by first | rfl | (simp; done) | (simp [*]; done)), H', ⟨by have := HK1.out; have := HK2.out; omega⟩, ⟨by (with_reducible repeat (first | apply Kd.ta_ | apply Kd.ua_ | apply Kd.db_)); exact Kd.uc_ HO_5.out (fun _ hk => trivial)⟩, ⟨by repeat (first | (with_reducible first | exact HB.out | apply da_ | apply aa_ | apply ca_) | exact HB.out)⟩⟩
        ·replace c13 := Bool.eq_false_iff.mpr c13
         subst c13
         have H1 : (mb_.l1 k2 l0 x5_1 (wrap64 (x8_2 + 1))) = some (r1, r2, r3) := by rw [if_neg (show ¬ (false = true) by decide)] at H; exact H
         clear H
         have H := H1
         clear H1
         have H' := ba_.mk H
         clear H
         obtain ⟨Ao35, co35, eo35⟩ := Kd.nc_ HO_5.out
         subst eo35
         go_wp2_with (first | ((with_reducible refine la_ (f := 49) rfl ?_); refine wb_ (some 41) rfl rfl Tryd.func49 (by kernel_rfl) rfl #[.slice A0 l0.length c0, .slice Ao35 x5_1.length co35, .int .i64 x8_2] rfl (by (try simp only [List.map_toArray, List.map_cons, List.map_nil]); first | done | rfl | (simp only [List.length_drop, List.length_take]; rfl)) ?_; (with_reducible refine (fn_.calls _ _ l0 _ _ x5_1 x8_2 t110 false _ ?side1 ?side2 ?side3 ?side4 A12.out).mono ?_); (case side1 => repeat (first | exact (Kd.rd_ HR0.out HB.out) | (with_reducible refine Kd.zc_ ?_ _) | (with_reducible refine Kd.ad_ ?_ _) | (with_reducible refine Kd.md_ ?_))); (case side2 => exact HC0.out); (case side3 => repeat (first | exact (Kd.lb_ HO_5.out).2.2 | (with_reducible refine Kd.zc_ ?_ _) | (with_reducible refine Kd.ad_ ?_ _) | (with_reducible refine Kd.md_ ?_))); (case side4 => exact (Kd.lb_ HO_5.out).2.1); rintro e w36 ⟨v112, rfl, ho0, hb⟩; refine ⟨_, rfl, ?_⟩; have n0_ := ba_.mk (Kd.gd_ (by (with_reducible repeat (first | apply Kd.ta_ | apply Kd.ua_ | apply Kd.db_)); exact HO_5.out) (Kd.be_ ho0) hb); have n1_ := ba_.mk (Kd.wc_ (Kd.yd_ ho0 (Kd.R_lt (by (with_reducible repeat (first | apply Kd.ta_ | apply Kd.ua_ | apply Kd.db_)); exact HO_5.out))) (wa_ (by repeat (first | (with_reducible first | exact HB.out | apply da_ | apply aa_ | apply ca_) | exact HB.out)))); have n2_ := ba_.mk (pa_ (by repeat (first | (with_reducible first | exact HB.out | apply da_ | apply aa_ | apply ca_) | exact HB.out)) hb); clear HO_5; clear HB; have HO_5 := n0_; have HO113 := n1_; have HB := n2_; clear n0_ n1_ n2_; (try clear hb); (try clear hb2); (try clear hk); (try clear hi); (try clear ho0)))
         go_roundg k2
         case measure => have := HK1.out; have := HK2.out; omega
         case rel => exact ⟨(wrap64 (x8_2 + 1)), (by first | rfl | (simp; done) | (simp [*]; done)), H', ⟨by have := HK1.out; have := HK2.out; omega⟩, ⟨by (with_reducible repeat (first | apply Kd.ta_ | apply Kd.ua_ | apply Kd.db_)); exact Kd.uc_ HO_5.out (fun _ hk => trivial)⟩, ⟨by repeat (first | (with_reducible first | exact HB.out | apply da_ | apply aa_ | apply ca_) | exact HB.out)⟩⟩
       ·rw [if_neg c11] at H
        have c11b0 : decide ((wrap64 ((wrap64 (2 * x8_2)) + (x5_1.length : Int))) ≤ 6) = false := decide_eq_false c11
        clear c11
        simp only [Option.some.injEq, Prod.mk.injEq] at H
        obtain ⟨rfl, rfl, rfl⟩ := H
        obtain ⟨Ao37, co37, eo37⟩ := Kd.nc_ HO_5.out
        subst eo37
        go_wp2
        go_ret3
        exact ⟨_, by first | rfl | (simp [xa_, ya_] <;> rfl) | (simp [*, xa_, ya_] <;> rfl), by first | exact Kd.ue_ _ _ _ _ _ | exact Kd.qg_ _ _ _ _ _ | exact Kd.ug_ _ _ _ _ _ | exact Kd.rg_ _ _ _ _ _ | exact Kd.tg_ _ _ _ _ _, by repeat (first | (with_reducible first | exact HB.out | apply da_ | apply aa_ | apply ca_) | exact HB.out)⟩
 ·replace c3 := Bool.eq_false_iff.mpr c3
  subst c3
  have H1 : (some (([] : List Int), 0, 2)) = some (r1, r2, r3) := by rw [if_neg (show ¬ (false = true) by decide)] at H; exact H
  clear H
  have H := H1
  clear H1
  simp only [Option.some.injEq, Prod.mk.injEq] at H
  obtain ⟨rfl, rfl, rfl⟩ := H
  go_enter Tryd.func32, Tryd.ntmps32
  go_wp2_with (first | ((with_reducible refine la_ (f := 38) rfl ?_); refine wb_ (some 13) rfl rfl Tryd.func38 (by kernel_rfl) rfl #[.slice A0 l0.length c0, .int .i64 (-1)] rfl (by (try simp only [List.map_toArray, List.map_cons, List.map_nil]); first | done | rfl | (simp only [List.length_drop, List.length_take]; rfl)) ?_; (with_reducible refine (nf_.calls _ _ l0 (-1) false _ ?side1 ?side2 A2.out).mono ?_); (case side1 => repeat (first | exact HR0.out | (with_reducible refine Kd.zc_ ?_ _) | (with_reducible refine Kd.ad_ ?_ _) | (with_reducible refine Kd.md_ ?_))); (case side2 => exact HC0.out); rintro e w38 ⟨rfl, hb⟩; refine ⟨_, rfl, ?_⟩; have n0_ := ba_.mk (pa_ (by repeat (first | (with_reducible first | exact HB.out | apply da_ | apply aa_ | apply ca_) | exact HB.out)) hb); clear HB; have HB := n0_; clear n0_; (try clear hb); (try clear hb2); (try clear hk); (try clear hi)))
  go_ret3
  exact ⟨_, by first | rfl | (simp [xa_, ya_] <;> rfl) | (simp [*, xa_, ya_] <;> rfl), by first | exact Kd.ue_ _ _ _ _ _ | exact Kd.qg_ _ _ _ _ _ | exact Kd.ug_ _ _ _ _ _ | exact Kd.rg_ _ _ _ _ _ | exact Kd.tg_ _ _ _ _ _, by repeat (first | (with_reducible first | exact HB.out | apply da_ | apply aa_ | apply ca_) | exact HB.out)⟩
def ac_.f (a0 : Int) : Option (Int) := if (wrap64 (a0 * 2)) ≥ 32 then (some (Go.bits .xor .i64 (wrap64 (a0 * 2)) 37)) else (some (wrap64 (a0 * 2)))
set_option maxHeartbeats 8000000 in
set_option maxRecDepth 100000 in
theorem ac_.calls (a0 : Int) (r : Int) (w : World) (h : ac_.f a0 = some r) :
  Calls Tryd.prog 82 #[.int .i64 a0] w fun e w' => e = .returned (.int .i64 r) ∧ gb_ w w' := by
 have H : (if (wrap64 (a0 * 2)) ≥ 32 then (some (Go.bits .xor .i64 (wrap64 (a0 * 2)) 37)) else (some (wrap64 (a0 * 2)))) = some r := h
 clear h
 by_cases c2 : (wrap64 (a0 * 2)) ≥ 32
 ·rw [if_pos c2] at H
  have c2b0 : decide (32 ≤ (wrap64 (a0 * 2))) = true := decide_eq_true c2
  clear c2
  obtain rfl := Option.some.inj H
  go_enter Tryd.func82, Tryd.ntmps82
  go_wp2
  go_ret
  exact ⟨by first | rfl | (simp; done) | (simp [*]; done), by repeat (first | exact gb_.refl _ | apply gb_.step)⟩
 ·rw [if_neg c2] at H
  have c2b0 : decide (32 ≤ (wrap64 (a0 * 2))) = false := decide_eq_false c2
  clear c2
  obtain rfl := Option.some.inj H
  go_enter Tryd.func82, Tryd.ntmps82
  go_wp2
  go_ret
  exact ⟨by first | rfl | (simp; done) | (simp [*]; done), by repeat (first | exact gb_.refl _ | apply gb_.step)⟩
end Go.Proofs.YtpkhgapifnjbeaaDoor.D
end
section
namespace Go.Proofs.YtpkhgapifnjbeaaDoor.D
open Go.RowKit Go.Proofs.YtpkhgapifnjbeaaDoor.G Go.Proofs.YtpkhgapifnjbeaaDoor.Rs Go.Proofs.YtpkhgapifnjbeaaDoorW.PrintWords Go.Proofs.YtpkhgapifnjbeaaDoorW.PrintLast Go.Proofs.YtpkhgapifnjbeaaDoorW.PrintMore
attribute [local go_sem] qc_ sc_ cd_ dd_ jc_ kc_ rc_ tc_
set_option linter.unusedVariables false
set_option linter.unusedSimpArgs false
end Go.Proofs.YtpkhgapifnjbeaaDoor.D
end
section
namespace Go.Proofs.YtpkhgapifnjbeaaDoor.G
set_option linter.unusedVariables false
open Go.RowKit Go.Proofs.YtpkhgapifnjbeaaDoorW.PrintWords Go.Proofs.YtpkhgapifnjbeaaDoorW.PrintLast Go.Proofs.YtpkhgapifnjbeaaDoorW.PrintMore Go.Proofs.YtpkhgapifnjbeaaDoor.Rs
def dn_.f (d : List Int) : Option (List Int × Int) := Go.Proofs.YtpkhgapifnjbeaaDoor.E.nb_.f 60 d
def xj_.f (w : List Int) : Option (List Int × Int × Int) := Go.Proofs.YtpkhgapifnjbeaaDoor.D.mb_.f 60 w
theorem dn_.calls (A0 : Option Addr) (c0 : Nat) (l0 : List Int) (r1 : List Int) (r2 : Int) (w : World) (hr0 : Kd.C (Kd.int .i64) w A0 l0.length l0) (hc0 : l0.length ≤ c0) (h : dn_.f l0 = some (r1, r2)) :
  Calls Tryd.prog 25 #[.slice A0 l0.length c0] w fun e w' => ∃ v0_ : Value, e = .returned (.tuple #[v0_, .int .i64 r2]) ∧ Kd.R (Kd.int .i64) 3 w' w.heap.size (fun _ => True) v0_ r1 ∧ Below w.heap.size w w' :=
 Go.Proofs.YtpkhgapifnjbeaaDoor.E.nb_.calls 60 A0 c0 l0 r1 r2 w hr0 hc0 h
theorem xj_.calls (A0 : Option Addr) (c0 : Nat) (l0 : List Int) (r1 : List Int) (r2 : Int) (r3 : Int) (w : World) (hr0 : Kd.C (Kd.int .i64) w A0 l0.length l0) (hc0 : l0.length ≤ c0) (h : xj_.f l0 = some (r1, r2, r3)) :
  Calls Tryd.prog 32 #[.slice A0 l0.length c0] w fun e w' => ∃ v0_ : Value, e = .returned (.tuple #[v0_, .int .i64 r2, .int .i64 r3]) ∧ Kd.R (Kd.int .i64) 3 w' w.heap.size (fun _ => True) v0_ r1 ∧ Below w.heap.size w w' :=
 Go.Proofs.YtpkhgapifnjbeaaDoor.D.mb_.calls 60 A0 c0 l0 r1 r2 r3 w hr0 hc0 h
end Go.Proofs.YtpkhgapifnjbeaaDoor.G
end
section
namespace Go.Proofs
open Go.Shelf
def Tryd.lays160_ren : Go.Shelf.Ren := ⟨fun | 160 => 62 | 232 => 71 | 231 => 70 | 227 => 72 | 234 => 74 | 233 => 73 | 236 => 76 | 235 => 75 | 228 => 83 | 271 => 86 | 151 => 85 | 197 => 84 | 120 => 93 | 152 => 92 | 260 => 91 | 137 => 96 | 119 => 97 | 224 => 89 | 225 => 88 | 217 => 87 | 266 => 94 | n => n, fun | 9 => 9 | 4 => 4 | 3 => 3 | 5 => 5 | 117 => 107 | 116 => 106 | 0 => 0 | 124 => 110 | 21 => 21 | 105 => 114 | 46 => 71 | 119 => 119 | 139 => 122 | 138 => 121 | n => n, fun | 3 => 1 | 4 => 2 | n => n⟩
theorem Tryd.lays160 : Go.Proofs.Lays.n160 Tryd.prog Tryd.lays160_ren := {
 mixed := by kernel_rfl
 f119 := Tryd.func97.trans (congrArg some (by kernel_rfl))
 f120 := Tryd.func93.trans (congrArg some (by kernel_rfl))
 f137 := Tryd.func96.trans (congrArg some (by kernel_rfl))
 f151 := Tryd.func85.trans (congrArg some (by kernel_rfl))
 f152 := Tryd.func92.trans (congrArg some (by kernel_rfl))
 f160 := Tryd.func62.trans (congrArg some (by kernel_rfl))
 f197 := Tryd.func84.trans (congrArg some (by kernel_rfl))
 f217 := Tryd.func87.trans (congrArg some (by kernel_rfl))
 f224 := Tryd.func89.trans (congrArg some (by kernel_rfl))
 f225 := Tryd.func88.trans (congrArg some (by kernel_rfl))
 f227 := Tryd.func72.trans (congrArg some (by kernel_rfl))
 f228 := Tryd.func83.trans (congrArg some (by kernel_rfl))
 f231 := Tryd.func70.trans (congrArg some (by kernel_rfl))
 f232 := Tryd.func71.trans (congrArg some (by kernel_rfl))
 f233 := Tryd.func73.trans (congrArg some (by kernel_rfl))
 f234 := Tryd.func74.trans (congrArg some (by kernel_rfl))
 f235 := Tryd.func75.trans (congrArg some (by kernel_rfl))
 f236 := Tryd.func76.trans (congrArg some (by kernel_rfl))
 f260 := Tryd.func91.trans (congrArg some (by kernel_rfl))
 f266 := Tryd.func94.trans (congrArg some (by kernel_rfl))
 f271 := Tryd.func86.trans (congrArg some (by kernel_rfl))
 t0 := Tryd.underlying0
 a0 := Tryd.isAgg0
 z0 := Tryd.sizeOf0
 v0 := Tryd.zeroValue0
 t3 := Tryd.underlying3
 a3 := Tryd.isAgg3
 z3 := Tryd.sizeOf3
 v3 := Tryd.zeroValue3
 t4 := Tryd.underlying4
 a4 := Tryd.isAgg4
 z4 := Tryd.sizeOf4
 v4 := Tryd.zeroValue4
 t5 := Tryd.underlying5
 a5 := Tryd.isAgg5
 z5 := Tryd.sizeOf5
 v5 := Tryd.zeroValue5
 t9 := Tryd.underlying9
 a9 := Tryd.isAgg9
 z9 := Tryd.sizeOf9
 v9 := Tryd.zeroValue9
 t21 := Tryd.underlying21
 a21 := Tryd.isAgg21
 z21 := Tryd.sizeOf21
 v21 := Tryd.zeroValue21
 t46 := Tryd.underlying71
 a46 := Tryd.isAgg71
 z46 := Tryd.sizeOf71
 v46 := Tryd.zeroValue71
 t105 := Tryd.underlying114
 a105 := Tryd.isAgg114
 z105 := Tryd.sizeOf114
 v105 := Tryd.zeroValue114
 t116 := Tryd.underlying106
 a116 := Tryd.isAgg106
 z116 := Tryd.sizeOf106
 t117 := Tryd.underlying107
 a117 := Tryd.isAgg107
 z117 := Tryd.sizeOf107
 v117 := Tryd.zeroValue107
 t119 := Tryd.underlying119
 a119 := Tryd.isAgg119
 z119 := Tryd.sizeOf119
 t124 := Tryd.underlying110
 a124 := Tryd.isAgg110
 z124 := Tryd.sizeOf110
 v124 := Tryd.zeroValue110
 t138 := Tryd.underlying121
 a138 := Tryd.isAgg121
 z138 := Tryd.sizeOf121
 v138 := Tryd.zeroValue121
 t139 := Tryd.underlying122
 a139 := Tryd.isAgg122
 z139 := Tryd.sizeOf122
 v139 := Tryd.zeroValue122
 g3 := by kernel_rfl
 g4 := by kernel_rfl }
def Tryd.lays138_ren : Go.Shelf.Ren := ⟨fun | 138 => 63 | 195 => 77 | 218 => 78 | 143 => 64 | 219 => 79 | 217 => 87 | 225 => 88 | 224 => 89 | 267 => 90 | 266 => 94 | 314 => 95 | n => n, fun | 9 => 9 | 3 => 3 | 4 => 4 | 5 => 5 | 0 => 0 | 46 => 71 | 146 => 94 | 51 => 93 | n => n, fun | 1 => 0 | n => n⟩
theorem Tryd.lays138 : Go.Proofs.Lays.n138 Tryd.prog Tryd.lays138_ren := {
 mixed := by kernel_rfl
 f138 := Tryd.func63.trans (congrArg some (by kernel_rfl))
 f143 := Tryd.func64.trans (congrArg some (by kernel_rfl))
 f195 := Tryd.func77.trans (congrArg some (by kernel_rfl))
 f217 := Tryd.func87.trans (congrArg some (by kernel_rfl))
 f218 := Tryd.func78.trans (congrArg some (by kernel_rfl))
 f219 := Tryd.func79.trans (congrArg some (by kernel_rfl))
 f224 := Tryd.func89.trans (congrArg some (by kernel_rfl))
 f225 := Tryd.func88.trans (congrArg some (by kernel_rfl))
 f266 := Tryd.func94.trans (congrArg some (by kernel_rfl))
 f267 := Tryd.func90.trans (congrArg some (by kernel_rfl))
 f314 := Tryd.func95.trans (congrArg some (by kernel_rfl))
 t0 := Tryd.underlying0
 a0 := Tryd.isAgg0
 z0 := Tryd.sizeOf0
 v0 := Tryd.zeroValue0
 t3 := Tryd.underlying3
 a3 := Tryd.isAgg3
 z3 := Tryd.sizeOf3
 v3 := Tryd.zeroValue3
 t4 := Tryd.underlying4
 a4 := Tryd.isAgg4
 z4 := Tryd.sizeOf4
 v4 := Tryd.zeroValue4
 t5 := Tryd.underlying5
 a5 := Tryd.isAgg5
 z5 := Tryd.sizeOf5
 v5 := Tryd.zeroValue5
 t9 := Tryd.underlying9
 a9 := Tryd.isAgg9
 z9 := Tryd.sizeOf9
 v9 := Tryd.zeroValue9
 t46 := Tryd.underlying71
 a46 := Tryd.isAgg71
 z46 := Tryd.sizeOf71
 v46 := Tryd.zeroValue71
 t51 := Tryd.underlying93
 a51 := Tryd.isAgg93
 z51 := Tryd.sizeOf93
 v51 := Tryd.zeroValue93
 t146 := Tryd.underlying94
 a146 := Tryd.isAgg94
 z146 := Tryd.sizeOf94
 v146 := Tryd.zeroValue94
 g1 := by kernel_rfl }
def Tryd.lays144_ren : Go.Shelf.Ren := ⟨fun | 144 => 48 | 143 => 64 | 219 => 79 | 217 => 87 | 225 => 88 | 224 => 89 | 267 => 90 | 266 => 94 | 314 => 95 | n => n, fun | 9 => 9 | 4 => 4 | 3 => 3 | 5 => 5 | 46 => 71 | 146 => 94 | 51 => 93 | n => n, fun | 1 => 0 | n => n⟩
theorem Tryd.lays144 : Go.Proofs.Lays.n144 Tryd.prog Tryd.lays144_ren := {
 mixed := by kernel_rfl
 f143 := Tryd.func64.trans (congrArg some (by kernel_rfl))
 f144 := Tryd.func48.trans (congrArg some (by kernel_rfl))
 f217 := Tryd.func87.trans (congrArg some (by kernel_rfl))
 f219 := Tryd.func79.trans (congrArg some (by kernel_rfl))
 f224 := Tryd.func89.trans (congrArg some (by kernel_rfl))
 f225 := Tryd.func88.trans (congrArg some (by kernel_rfl))
 f266 := Tryd.func94.trans (congrArg some (by kernel_rfl))
 f267 := Tryd.func90.trans (congrArg some (by kernel_rfl))
 f314 := Tryd.func95.trans (congrArg some (by kernel_rfl))
 t3 := Tryd.underlying3
 a3 := Tryd.isAgg3
 z3 := Tryd.sizeOf3
 v3 := Tryd.zeroValue3
 t4 := Tryd.underlying4
 a4 := Tryd.isAgg4
 z4 := Tryd.sizeOf4
 v4 := Tryd.zeroValue4
 t5 := Tryd.underlying5
 a5 := Tryd.isAgg5
 z5 := Tryd.sizeOf5
 v5 := Tryd.zeroValue5
 t9 := Tryd.underlying9
 a9 := Tryd.isAgg9
 z9 := Tryd.sizeOf9
 v9 := Tryd.zeroValue9
 t46 := Tryd.underlying71
 a46 := Tryd.isAgg71
 z46 := Tryd.sizeOf71
 v46 := Tryd.zeroValue71
 t51 := Tryd.underlying93
 a51 := Tryd.isAgg93
 z51 := Tryd.sizeOf93
 v51 := Tryd.zeroValue93
 t146 := Tryd.underlying94
 a146 := Tryd.isAgg94
 z146 := Tryd.sizeOf94
 v146 := Tryd.zeroValue94
 g1 := by kernel_rfl }
def Tryd.laysX_ren : Go.Shelf.Ren := ⟨fun | 167 => 28 | 105 => 27 | 212 => 42 | 99 => 43 | 165 => 44 | 166 => 26 | 170 => 45 | 169 => 29 | 263 => 58 | 264 => 59 | 206 => 60 | 240 => 41 | 241 => 61 | 276 => 57 | 277 => 69 | n => n, fun | 9 => 9 | 3 => 3 | 4 => 4 | 20 => 20 | 0 => 0 | 46 => 71 | 109 => 72 | 5 => 5 | 72 => 54 | 76 => 57 | 51 => 93 | 146 => 94 | 53 => 96 | 148 => 97 | 70 => 51 | 37 => 52 | 75 => 56 | 127 => 76 | 164 => 91 | 80 => 61 | n => n, fun | n => n⟩
theorem Tryd.laysX : Go.Proofs.Lays.n105 Tryd.prog Tryd.laysX_ren := {
 mixed := by kernel_rfl
 f99 := Tryd.func43.trans (congrArg some (by kernel_rfl))
 f105 := Tryd.func27.trans (congrArg some (by kernel_rfl))
 f165 := Tryd.func44.trans (congrArg some (by kernel_rfl))
 f166 := Tryd.func26.trans (congrArg some (by kernel_rfl))
 f169 := Tryd.func29.trans (congrArg some (by kernel_rfl))
 f170 := Tryd.func45.trans (congrArg some (by kernel_rfl))
 f206 := Tryd.func60.trans (congrArg some (by kernel_rfl))
 f212 := Tryd.func42.trans (congrArg some (by kernel_rfl))
 f240 := Tryd.func41.trans (congrArg some (by kernel_rfl))
 f241 := Tryd.func61.trans (congrArg some (by kernel_rfl))
 f263 := Tryd.func58.trans (congrArg some (by kernel_rfl))
 f264 := Tryd.func59.trans (congrArg some (by kernel_rfl))
 f276 := Tryd.func57.trans (congrArg some (by kernel_rfl))
 f277 := Tryd.func69.trans (congrArg some (by kernel_rfl))
 t0 := Tryd.underlying0
 a0 := Tryd.isAgg0
 z0 := Tryd.sizeOf0
 v0 := Tryd.zeroValue0
 t3 := Tryd.underlying3
 a3 := Tryd.isAgg3
 z3 := Tryd.sizeOf3
 v3 := Tryd.zeroValue3
 t4 := Tryd.underlying4
 a4 := Tryd.isAgg4
 z4 := Tryd.sizeOf4
 v4 := Tryd.zeroValue4
 t5 := Tryd.underlying5
 a5 := Tryd.isAgg5
 z5 := Tryd.sizeOf5
 v5 := Tryd.zeroValue5
 t9 := Tryd.underlying9
 a9 := Tryd.isAgg9
 z9 := Tryd.sizeOf9
 v9 := Tryd.zeroValue9
 t20 := Tryd.underlying20
 a20 := Tryd.isAgg20
 z20 := Tryd.sizeOf20
 v20 := Tryd.zeroValue20
 t37 := Tryd.underlying52
 a37 := Tryd.isAgg52
 z37 := Tryd.sizeOf52
 v37 := Tryd.zeroValue52
 t46 := Tryd.underlying71
 a46 := Tryd.isAgg71
 z46 := Tryd.sizeOf71
 v46 := Tryd.zeroValue71
 t51 := Tryd.underlying93
 a51 := Tryd.isAgg93
 z51 := Tryd.sizeOf93
 v51 := Tryd.zeroValue93
 t53 := Tryd.underlying96
 a53 := Tryd.isAgg96
 z53 := Tryd.sizeOf96
 v53 := Tryd.zeroValue96
 t70 := Tryd.underlying51
 a70 := Tryd.isAgg51
 z70 := Tryd.sizeOf51
 v70 := Tryd.zeroValue51
 t72 := Tryd.underlying54
 a72 := Tryd.isAgg54
 z72 := Tryd.sizeOf54
 v72 := Tryd.zeroValue54
 t75 := Tryd.underlying56
 a75 := Tryd.isAgg56
 z75 := Tryd.sizeOf56
 v75 := Tryd.zeroValue56
 t76 := Tryd.underlying57
 a76 := Tryd.isAgg57
 z76 := Tryd.sizeOf57
 v76 := Tryd.zeroValue57
 t109 := Tryd.underlying72
 a109 := Tryd.isAgg72
 z109 := Tryd.sizeOf72
 v109 := Tryd.zeroValue72
 t127 := Tryd.underlying76
 a127 := Tryd.isAgg76
 z127 := Tryd.sizeOf76
 v127 := Tryd.zeroValue76
 t146 := Tryd.underlying94
 a146 := Tryd.isAgg94
 z146 := Tryd.sizeOf94
 v146 := Tryd.zeroValue94
 t148 := Tryd.underlying97
 a148 := Tryd.isAgg97
 z148 := Tryd.sizeOf97
 v148 := Tryd.zeroValue97
 t164 := Tryd.underlying91
 a164 := Tryd.isAgg91
 z164 := Tryd.sizeOf91
 v164 := Tryd.zeroValue91 }
theorem Tryd.laysX_extra : Builder.Extra Tryd.prog Tryd.laysX_ren := {
 sizeBuilder := by kernel_rfl
 liesBuilder := by kernel_rfl
 t5 := Tryd.underlying5
 a5 := Tryd.isAgg5
 z5 := Tryd.sizeOf5
 v5 := Tryd.zeroValue5
 infoByte := by kernel_rfl
 cellsByte := by kernel_rfl
 sizeByte := by kernel_rfl
 neB5 := by decide }
theorem Tryd.laysX166 : Go.Proofs.Lays.n166 Tryd.prog Tryd.laysX_ren := { Tryd.laysX with }
theorem Tryd.laysX169 : Go.Proofs.Lays.n169 Tryd.prog Tryd.laysX_ren := { Tryd.laysX with }
theorem Tryd.laysX167 : Go.Proofs.Lays.n167 Tryd.prog Tryd.laysX_ren := { Tryd.laysX with
 f167 := Tryd.func28.trans (congrArg some (by kernel_rfl)) }
def Tryd.rev_ren : Go.Shelf.Ren := ⟨fun | 35 => 33 | n => n, fun | 22 => 52 | 23 => 5 | n => n, fun | n => n⟩
theorem Tryd.rev : Go.Proofs.SlLaysE.n35 Tryd.prog Tryd.rev_ren := {
 mixed := by kernel_rfl
 f35 := ⟨Tryd.f33.name, by decide, Tryd.func33.trans (congrArg some (by kernel_rfl))⟩
 t0 := Tryd.underlying0
 a0 := Tryd.isAgg0
 z0 := Tryd.sizeOf0
 v0 := Tryd.zeroValue0
 t3 := Tryd.underlying3
 a3 := Tryd.isAgg3
 z3 := Tryd.sizeOf3
 v3 := Tryd.zeroValue3
 t4 := Tryd.underlying4
 a4 := Tryd.isAgg4
 z4 := Tryd.sizeOf4
 v4 := Tryd.zeroValue4
 t22 := Tryd.underlying52
 a22 := Tryd.isAgg52
 z22 := Tryd.sizeOf52
 v22 := Tryd.zeroValue52
 a23 := Tryd.isAgg5
 z23 := Tryd.sizeOf5 }
end Go.Proofs
end
section
namespace Go.Proofs.YtpkhgapifnjbeaaDoor.G
set_option linter.unusedVariables false
set_option linter.unusedSimpArgs false
open Go.RowKit Go.Proofs.YtpkhgapifnjbeaaDoorW.PrintWords
def kj_.f (s cs : ByteArray) : Option ByteArray := if s.size ≤ 1000 ∧ cs = ⟨#[48, 49, 63]⟩ then some ⟨(Lib.trimS s.data.toList cs.data.toList).toArray⟩ else none
theorem kj_.calls (s cs r : ByteArray) (w : World) (h : kj_.f s cs = some r) :
  Calls Tryd.prog 62 #[.string s, .string cs] w fun e w' => e = .returned (.string r) ∧ Below w.heap.size w w' := by
 unfold kj_.f at h
 by_cases hc : s.size ≤ 1000 ∧ cs = ⟨#[48, 49, 63]⟩
 ·rw [if_pos hc] at h
  obtain rfl := Option.some.inj h
  obtain ⟨hs, rfl⟩ := hc
  exact Any.strings_Trim_laid Tryd.lays160 (by kernel_rfl) s _ w (by omega) (by decide) (ascii_of_all (by decide))
 ·rw [if_neg hc] at h; cases h
def l_Count.f (s cs : ByteArray) : Option Int := match cs.data.toList with
 | [c] => some (Lib.countByte s.data.toList c)
 | _ => none
theorem one_byte {cs : ByteArray} {c : UInt8} (h : cs.data.toList = [c]) : cs = ⟨#[c]⟩ := by
 cases cs with
 | mk d => congr 1; apply Array.ext'; exact h
theorem l_Count.calls (s cs : ByteArray) (r : Int) (w : World) (h : l_Count.f s cs = some r) :
  Calls Tryd.prog 63 #[.string s, .string cs] w fun e w' => e = .returned (.int .i64 r) ∧ Below w.heap.size w w' := by
 unfold l_Count.f at h
 split at h
 ·rename_i c hc
  obtain rfl := Option.some.inj h
  rw [one_byte hc]
  exact (Any.strings_Count_one Tryd.lays138 s c w).mono fun e w' ⟨h1, h2⟩ => ⟨h1, by rw [h2]; exact Below.refl _ _⟩
 ·cases h
def se_.f (s cs : ByteArray) : Option Bool := match cs.data.toList with
 | [c] => some (decide (0 ≤ Lib.indexByte s.data.toList c))
 | _ => none
theorem se_.calls (s cs : ByteArray) (r : Bool) (w : World) (h : se_.f s cs = some r) :
  Calls Tryd.prog 48 #[.string s, .string cs] w fun e w' => e = .returned (.bool r) ∧ Below w.heap.size w w' := by
 unfold se_.f at h
 split at h
 ·rename_i c hc
  obtain rfl := Option.some.inj h
  rw [one_byte hc]
  exact (Any.strings_Contains_one Tryd.lays144 s c w).mono fun e w' ⟨h1, h2⟩ => ⟨h1, by rw [h2]; exact Below.refl _ _⟩
 ·cases h
def offB (x : Int) : Bool := decide (x < 0) || decide (31 < x)
theorem validC (x : Int) (W : World) :
  Calls Tryd.prog 16 #[.int .i64 x] W fun e w' => e = .returned (.bool (offB x)) ∧ W = w' := by
 by_cases h1 : x < 0 <;> by_cases h2 : 31 < x
 all_goals
  go_enter Tryd.func16, Tryd.ntmps16
  go_wp2
  go_ret
  exact ⟨by simp [offB, h1, h2], rfl⟩
theorem er_ (x : Int) (W : World) (b : Bool) (hb : offB x = b) :
  Calls Tryd.prog 16 #[.int .i64 x] W fun e w' => e = .returned (.bool b) ∧ W = w' := hb ▸ validC x W
set_option maxHeartbeats 1000000 in
theorem idxV (w : World) (A : Option Addr) (c : Nat) (l : List Int) (hr : Kd.C (Kd.int .i64) w A l.length l) (hl : l.length ≤ 9223372036854775807) :
  Calls Tryd.prog 24 #[.slice A l.length c, .func (.func 16) #[] #[]] w fun e w' => (∃ r : Int, e = .returned (.int .i64 r) ∧ decide (0 ≤ r) = l.any offB) ∧ w = w' := by
 have HR := Lib.hid hr
 clear hr
 go_enter Tryd.func24, Tryd.ntmps24
 go_wp2
 go_loop [8] (fun v => ∃ k : Int, 0 ≤ k ∧ k ≤ l.length ∧ v = .int .i64 k ∧ Hid ((l.take k.toNat).any offB = false)) (fun v => l.length - (intOf v).toNat)
 case atStart => exact ⟨0, by omega, by omega, rfl, Lib.hid (by simp)⟩
 case round =>
  obtain ⟨k, hk0, hk, rfl, HN⟩ := hrel
  by_cases hlt : k < l.length
  ·have hs := qm_ offB l k hk0 hlt
   have hh := pm_ offB l k hk0 hlt
   have HS := Lib.hid hs
   have HH := Lib.hid hh
   clear hs hh
   obtain ⟨ad, e1, hx⟩ := Kd.id_ HR.out k hk0 hlt
   subst e1
   cases hb : offB (rd l k)
   ·have HB := Lib.hid hb
    clear hb
    go_wp2_with (first | (go_at_call 16; refine (er_ _ _ _ HB.out).mono ?_; rintro e w' ⟨rfl, rfl⟩))
    go_round
    case rel => exact ⟨k + 1, by omega, by omega, rfl, Lib.hid (by rw [HS.out, HN.out, HB.out]; rfl)⟩
    case measure => simp [intOf]; omega
   ·have HB := Lib.hid hb
    clear hb
    go_wp2_with (first | (go_at_call 16; refine (er_ _ _ _ HB.out).mono ?_; rintro e w' ⟨rfl, rfl⟩))
    go_ret
    exact ⟨⟨k, rfl, by rw [HH.out HB.out]; simp [hk0]⟩, rfl⟩
  ·have HE := Lib.hid (ao_ offB l k hlt HN.out)
   go_wp2
   go_ret
   exact ⟨⟨-1, rfl, by rw [HE.out]; rfl⟩, rfl⟩
def vi_.f (l : List Int) : Option Bool := if l.length ≤ 1000 then some (l.any offB) else none
set_option maxHeartbeats 1000000 in
theorem vi_.calls (A : Option Addr) (c : Nat) (l : List Int) (r : Bool) (w : World) (hr : Kd.C (Kd.int .i64) w A l.length l) (hc : l.length ≤ c) (h : vi_.f l = some r) :
  Calls Tryd.prog 15 #[.slice A l.length c, .func (.func 16) #[] #[]] w fun e w' => e = .returned (.bool r) ∧ Below w.heap.size w w' := by
 unfold vi_.f at h
 by_cases hl : l.length ≤ 1000
 ·rw [if_pos hl] at h
  obtain rfl := Option.some.inj h
  have HR := Lib.hid hr
  clear hr hc h
  go_enter Tryd.func15, Tryd.ntmps15
  go_wp2_with (first | (go_at_call 24; refine (idxV _ A c l HR.out (by omega)).mono ?_; rintro e w' ⟨⟨r, rfl, hr⟩, rfl⟩; have H9 := Lib.hid hr; clear hr))
  go_ret
  exact ⟨congrArg (fun b => Ending.returned (.bool b)) (by rw [← H9.out]), Below.refl _ _⟩
 ·rw [if_neg hl] at h; cases h
end Go.Proofs.YtpkhgapifnjbeaaDoor.G
end
section
namespace Go.Proofs.YtpkhgapifnjbeaaDoor.G
set_option linter.unusedVariables false
set_option linter.unusedSimpArgs false
open Go.RowKit Go.Sort Go.Lib Go.Lib.Hx Go.Proofs.YtpkhgapifnjbeaaDoorW.PrintWords
def ko_ (s : ByteArray) : ByteArray := ⟨s.data.toList.reverse.toArray⟩
def ef_.f (s : ByteArray) : Option ByteArray := if s.size ≤ 100000 then some (ko_ s) else none
theorem pg_ (s : ByteArray) : (numsOf s).toArray.size = s.size := by
 rw [List.size_toArray, numsOf_length]
theorem bytes_holds (w : World) (s : ByteArray) (cap : Nat) : Holds (Value.int .u8) ((w.alloc (.cells (bytesRow s cap) 5 ((bytesRow s cap).size, (bytesRow s cap).size + 1))).drew) w.heap.size 0 (numsOf s).toArray := by
 intro j hj
 rw [pg_] at hj
 have hj' : j < s.data.size := hj
 rw [Nat.zero_add]
 refine ⟨(World.cell?_alloc_mark w _ 5 _ j).trans ((bytesRow_at s cap j hj').trans ?_), (World.frozen?_alloc_mark w _ 5 _ _ j).trans ?_⟩
 ·have h1 : j < (numsOf s).toArray.size := by rw [pg_]; exact hj
  rw [getElem!_pos _ j h1]
  have := numsOf_at s j hj'
  rw [List.getD_eq_getElem?_getD, List.getElem?_eq_getElem (by rw [numsOf_length]; exact hj)] at this
  simp only [Option.getD_some] at this
  rw [List.getElem_toArray]
  exact congrArg (fun x : Int => some (Value.int .u8 x)) this.symm
 ·have : s.size ≤ (bytesRow s cap).size := by
   unfold bytesRow
   rw [Array.size_append, Array.size_map]
   exact Nat.le_add_right _ _
  rw [decide_eq_false (show ¬ (bytesRow s cap).size ≤ j by omega)]; rfl
theorem rev_at (blk n cap : Nat) (zs : List Int) (w : World) (hn : zs.length = n) (hH : Holds (Value.int .u8) w blk 0 zs.toArray) (hsz : n ≤ 9223372036854775807) :
  Calls Tryd.prog 33 #[.slice (some ⟨blk, 0, none⟩) n cap] w fun e w' => e = .returned (.tuple #[]) ∧ Holds (Value.int .u8) w' blk 0 zs.reverse.toArray ∧ ∀ B, B ≤ blk → Below B w w' := by
 subst hn
 refine (AnyE.slices_Reverse Tryd.rev (Value.int .u8) (fun _ => rfl) blk 0 cap zs w hH hsz).mono ?_
 rintro e w' ⟨rfl, m, rfl⟩
 exact ⟨rfl, holds_putRow _ _ _ _ _ _ (holds_ahead _ _ _ _ _ _ hH) (by simp), fun B hB => below_putRow (Below.refl _ _) hB⟩
theorem pr_ (w : World) (blk n cap : Nat) (l : List UInt8) (hn : l.length = n) (hH : Holds (Value.int .u8) w blk 0 (l.map fun b => (b.toNat : Int)).toArray) :
  (convert 52 9 (.slice (some ⟨blk, 0, none⟩) n cap)).run Tryd.prog w = .ok (.string ⟨l.toArray⟩) w := by
 subst hn
 refine run_convert_bytes_back w 52 9 5 ⟨blk, 0, none⟩ cap l Tryd.underlying52 Tryd.underlying5 Tryd.underlying9 fun j hj => ?_
 have := (hH j (by simpa using hj)).1
 rw [getElem!_pos _ j (by simpa using hj)] at this
 rw [show (⟨blk, 0, none⟩ : Addr).add j = ⟨blk, 0 + j, none⟩ from by simp [Addr.add]; omega, this]; simp
theorem nq_ (s : ByteArray) : (numsOf s).reverse = (ko_ s).data.toList.map fun b => (b.toNat : Int) := by
 unfold numsOf ko_
 rw [List.map_reverse]
set_option maxHeartbeats 1000000 in
theorem ef_.calls (a0 r : ByteArray) (w : World) (h : ef_.f a0 = some r) :
  Calls Tryd.prog 20 #[.string a0] w fun e w' => e = .returned (.string r) ∧ Below w.heap.size w w' := by
 unfold ef_.f at h
 by_cases hs : a0.size ≤ 100000
 ·rw [if_pos hs] at h
  obtain rfl := Option.some.inj h
  clear h
  have hcv := fun (w : World) (s : ByteArray) => run_bytes_of_string (P := Tryd.prog) w 9 52 5 s Tryd.underlying9 Tryd.underlying52 Tryd.underlying5
  have H0 := fun c => Lib.hid (bytes_holds w a0 c)
  have HB0 := fun c => Lib.hid (show Below w.heap.size w ((w.alloc (.cells (bytesRow a0 c) 5 ((bytesRow a0 c).size, (bytesRow a0 c).size + 1))).drew) from ca_ ((Below.refl _ _).alloc (Nat.le_refl _) _))
  go_enter Tryd.func20, Tryd.ntmps20
  go_wp2_with fail
  generalize grownCap w a0.size 0 5 = c
  have H1 := H0 c
  have HB1 := HB0 c
  clear H0 HB0 hcv
  refine (rev_at w.heap.size a0.size c (numsOf a0) _ (numsOf_length a0) H1.out (by omega)).mono ?_
  rintro e w1 ⟨rfl, hH, hB⟩
  have HB := Lib.hid (HB1.out.trans (hB w.heap.size (Nat.le_refl _)))
  rw [nq_] at hH
  have hc := pr_ w1 w.heap.size a0.size c (ko_ a0).data.toList (by unfold ko_; simp) hH
  clear hH hB H1 HB1
  go_wp2
  go_ret
  exact ⟨rfl, HB.out⟩
 ·rw [if_neg hs] at h; cases h
end Go.Proofs.YtpkhgapifnjbeaaDoor.G
end
section
namespace Go.Proofs.YtpkhgapifnjbeaaDoor.TA
open Go.RowKit Go.Proofs.YtpkhgapifnjbeaaDoor.G Go.Proofs.YtpkhgapifnjbeaaDoorW.PrintWords Go.Proofs.YtpkhgapifnjbeaaDoorW.PrintLast Go.Proofs.YtpkhgapifnjbeaaDoorW.PrintMore
attribute [local go_sem] qc_ sc_ cd_ dd_ jc_ kc_ rc_ tc_
set_option linter.unusedVariables false
set_option linter.unusedSimpArgs false
def errW : Option Int → Value
 | none => .nilIface
 | some c => .iface 0 (.int .i64 c)
theorem xa_ : errW none = .nilIface := rfl
theorem ya_ (c : Int) : errW (some c) = .iface 0 (.int .i64 c) := rfl
theorem ii_ : (Tryd.prog.info? 3).map (fun i => (i.zero, i.size, i.bytes)) = some (some (.int .i64 0), 1, 8) := by kernel_rfl
def ke_ (xs : List (List Int)) (i : Int) : (List Int) := xs.getD i.toNat ([] : List Int)
theorem bo_ {w : World} {A : Option Addr} {n : Nat} {xs : List (List Int)} (h : Kd.C (Kd.slice 3 (Kd.int .i64)) w A n xs) (i : Int) (h0 : 0 ≤ i) (h1 : i < n) : ∃ ad A0 c0, A = some ad ∧ w.cell? (ad.add i.toNat) = some (.slice A0 (ke_ xs i).length c0) ∧ (ke_ xs i).length ≤ c0 ∧ (Kd.int .i64).C w A0 (ke_ xs i).length (ke_ xs i) := by
 obtain ⟨ad, c, e, _, hK, hc0⟩ := Kd.eh_ h ([] : List Int) i h0 h1
 have hc : ∀ j u, c[j]? = some u → w.cell? (ad.add (i.toNat * 1 + j)) = some u := hc0
 obtain ⟨A0, c0, rfl, l0, g0⟩ := hK
 exact ⟨ad, A0, c0, e, by have hq := hc 0 _ rfl; rwa [Nat.mul_one, Nat.add_zero] at hq, l0, g0⟩
end Go.Proofs.YtpkhgapifnjbeaaDoor.TA
end
section
namespace Go.Proofs.YtpkhgapifnjbeaaDoor.TA
open Go.RowKit Go.Proofs.YtpkhgapifnjbeaaDoor.G Go.Proofs.YtpkhgapifnjbeaaDoorW.PrintWords Go.Proofs.YtpkhgapifnjbeaaDoorW.PrintLast Go.Proofs.YtpkhgapifnjbeaaDoorW.PrintMore
attribute [local go_sem] qc_ sc_ cd_ dd_ jc_ kc_ rc_ tc_
set_option linter.unusedVariables false
set_option linter.unusedSimpArgs false
def wd_.f (a0_0 : Int) (a0_1 : Int) (a0_2 : Int) (a0_3 : Int) : Option (Bool) := (vi_.f (([a0_0, a0_2, a0_3] : List Int))).bind fun t105 => (if t105 = true then (some false) else (if a0_1 ≥ 0 then (some (decide (a0_1 ≤ 9999))) else (some false)))
set_option maxHeartbeats 8000000 in
set_option maxRecDepth 100000 in
theorem wd_.calls (a0_0 : Int) (a0_1 : Int) (a0_2 : Int) (a0_3 : Int) (r : Bool) (w : World) (h : wd_.f a0_0 a0_1 a0_2 a0_3 = some r) :
  Calls Tryd.prog 9 #[.agg #[.int .i64 a0_0, .int .i64 a0_1, .int .i64 a0_2, .int .i64 a0_3]] w fun e w' => e = .returned (.bool r) ∧ Below w.heap.size w w' := by
 have hu26 := Tryd.underlying26
 have HB := ba_.mk (Below.refl w.heap.size w)
 have H : ((vi_.f (([a0_0, a0_2, a0_3] : List Int))).bind fun t105 => (if t105 = true then (some false) else (if a0_1 ≥ 0 then (some (decide (a0_1 ≤ 9999))) else (some false)))) = some r := h
 clear h
 obtain ⟨y102, hy102⟩ : ∃ y_ : List Int, y_ = (([a0_0, a0_2, a0_3] : List Int)) := ⟨_, rfl⟩
 replace H : ((vi_.f y102).bind fun t105 => (if t105 = true then (some false) else (if a0_1 ≥ 0 then (some (decide (a0_1 ≤ 9999))) else (some false)))) = some r := by first | (rw [hy102]; with_reducible exact H) | (have H2_ := (Option.bind_some _ _).symm.trans H; rw [hy102]; with_reducible exact H2_) | (have H2_ := (Option.bind_some _ _).symm.trans H; with_reducible exact H2_) | with_reducible exact H | (rw [hy102]; exact H) | exact H
 have Ny102 := ba_.mk hy102
 clear hy102
 replace H := Option.bind_eq_some_iff.mp H
 obtain ⟨t105, A20, H⟩ := H
 replace H : (if t105 = true then (some false) else (if a0_1 ≥ 0 then (some (decide (a0_1 ≤ 9999))) else (some false))) = some r := H
 have A2 := ba_.mk A20
 clear A20
 by_cases c3 : t105 = true
 ·subst c3
  have H1 : (some false) = some r := by rw [if_pos rfl] at H; exact H
  clear H
  have H := H1
  clear H1
  obtain rfl := Option.some.inj H
  go_enter Tryd.func9, Tryd.ntmps9
  go_wp2_with (first | ((with_reducible refine hc_ (N := 1) rfl ?_); refine ed_ ?hg (N := 1) ?hd (cs := #[.int .i64 a0_0, .int .i64 a0_1, .int .i64 a0_2, .int .i64 a0_3]) (t := 26) ?hr ?_; (case hd => rfl); (case hg => rfl); (case hr => first | (go_simp; done) | (go_simp; rfl)); intro gb101 hg w4 hbox hb; have n0_ := ba_.mk (pa_ (by repeat (first | (with_reducible first | exact HB.out | apply da_ | apply aa_ | apply ca_) | exact HB.out)) hb); have n1_ := ba_.mk (hbox); have n2_ := ba_.mk ((by rw [hg]; exact (wa_ (by repeat (first | (with_reducible first | exact HB.out | apply da_ | apply aa_ | apply ca_) | exact HB.out))) : w.heap.size ≤ gb101)); have n3_ := ba_.mk ((by rw [hg]; exact (wa_ (by repeat (first | (with_reducible first | exact HB.out | apply da_ | apply aa_ | apply ca_) | exact HB.out))) : w.heap.size ≤ gb101)); clear HB; have HB := n0_; have BK101 := n1_; have GW101 := n2_; have GE101 := n3_; clear n0_ n1_ n2_ n3_; clear hb hbox hg; have hcz5_0 : w4.cell? ⟨gb101, 0, none⟩ = some (.int .i64 a0_0) := (ga_ BK101.out 0).trans rfl; have hcz5_1 : w4.cell? ⟨gb101, 1, none⟩ = some (.int .i64 a0_1) := (ga_ BK101.out 1).trans rfl; have hcz5_2 : w4.cell? ⟨gb101, 2, none⟩ = some (.int .i64 a0_2) := (ga_ BK101.out 2).trans rfl; have hcz5_3 : w4.cell? ⟨gb101, 3, none⟩ = some (.int .i64 a0_3) := (ga_ BK101.out 3).trans rfl; have hfz5_0 := ha_ BK101.out 0; have hfz5_1 := ha_ BK101.out 1; have hfz5_2 := ha_ BK101.out 2; have hfz5_3 := ha_ BK101.out 3) | ((with_reducible refine hc_ (N := 9) rfl ?_); refine Kd.ai_ (Kd.int .i64) _ 3 ?hg (N := 9) ?hd (xs := ([a0_0, a0_2, a0_3] : List Int)) (inner := [.int .i64 a0_0, .int .i64 a0_2, .int .i64 a0_3]) (ok := fun _ => True) (okp := fun _ => True) ?hr ?hp (fun _ hk => hk) trivial (Below.refl _ _) (Nat.le_refl _) (by simp) ?_; (case hd => rfl); (case hg => rfl); (case hr => first | (go_simp; done) | (go_simp; rfl)); (case hp => exact (Reps.one (show Kd.M (Kd.int .i64) _ _ _ a0_0 [.int .i64 a0_0] from rfl) (Reps.one (show Kd.M (Kd.int .i64) _ _ _ a0_2 [.int .i64 a0_2] from rfl) (Reps.one (show Kd.M (Kd.int .i64) _ _ _ a0_3 [.int .i64 a0_3] from rfl) (Reps.none _ _))))); intro v103 w6 ho7 hb hg_ hnew_; clear hg_ hnew_; (first | rw [← Ny102.out] at ho7 | (simp only [Int.reduceToNat] at ho7; rw [← Ny102.out] at ho7)); have n0_ := ba_.mk (Kd.wc_ ho7 (wa_ (by repeat (first | (with_reducible first | exact HB.out | apply da_ | apply aa_ | apply ca_ | refine ia_ ?_ GE101.out) | exact HB.out)))); have n1_ := ba_.mk (zb_ (g := gb101) (o := .cells #[.int .i64 a0_0, .int .i64 a0_1, .int .i64 a0_2, .int .i64 a0_3] 26 (0, 0)) (by (with_reducible repeat (first | refine ra_ ?_ _ | refine ab_ ?_ | refine qa_ ?_ _)); exact BK101.out) hb); have n2_ := ba_.mk (pa_ (by repeat (first | (with_reducible first | exact HB.out | apply da_ | apply aa_ | apply ca_ | refine ia_ ?_ GE101.out) | exact HB.out)) hb); clear BK101; clear HB; have HO104 := n0_; have BK101 := n1_; have HB := n2_; clear n0_ n1_ n2_; clear hb ho7; obtain ⟨Ao8, co8, eo8⟩ := Kd.nc_ HO104.out; subst eo8) | ((with_reducible refine la_ (f := 15) rfl ?_); refine wb_ (some 10) rfl rfl Tryd.func15 (by kernel_rfl) rfl #[.slice Ao8 y102.length co8, .func (.func 16) #[] #[]] rfl (by (try simp only [List.map_toArray, List.map_cons, List.map_nil]); first | done | rfl | (simp only [List.length_drop, List.length_take]; rfl)) ?_; (with_reducible refine (vi_.calls _ _ y102 true _ ?side1 ?side2 A2.out).mono ?_); (case side1 => repeat (first | exact (Kd.lb_ HO104.out).2.2 | (with_reducible refine Kd.zc_ ?_ _) | (with_reducible refine Kd.ad_ ?_ _) | (with_reducible refine Kd.md_ ?_))); (case side2 => exact (Kd.lb_ HO104.out).2.1); rintro e w9 ⟨rfl, hb⟩; refine ⟨_, rfl, ?_⟩; have n0_ := ba_.mk (Kd.vc_ (by (with_reducible repeat (first | apply Kd.ta_ | apply Kd.ua_ | apply Kd.db_)); exact HO104.out) hb); have n1_ := ba_.mk (zb_ (g := gb101) (o := .cells #[.int .i64 a0_0, .int .i64 a0_1, .int .i64 a0_2, .int .i64 a0_3] 26 (0, 0)) (by (with_reducible repeat (first | refine ra_ ?_ _ | refine ab_ ?_ | refine qa_ ?_ _)); exact BK101.out) hb); have n2_ := ba_.mk (pa_ (by repeat (first | (with_reducible first | exact HB.out | apply da_ | apply aa_ | apply ca_ | refine ia_ ?_ GE101.out) | exact HB.out)) hb); clear HO104; clear BK101; clear HB; have HO104 := n0_; have BK101 := n1_; have HB := n2_; clear n0_ n1_ n2_; (try clear hb); (try clear hb2); (try clear hk); (try clear hi)))
  go_ret
  exact ⟨by first | rfl | (simp [xa_, ya_] <;> rfl) | (simp [*, xa_, ya_] <;> rfl), by repeat (first | (with_reducible first | exact HB.out | apply da_ | apply aa_ | apply ca_ | refine ia_ ?_ GE101.out) | exact HB.out)⟩
 ·replace c3 := Bool.eq_false_iff.mpr c3
  subst c3
  have H1 : (if a0_1 ≥ 0 then (some (decide (a0_1 ≤ 9999))) else (some false)) = some r := by rw [if_neg (show ¬ (false = true) by decide)] at H; exact H
  clear H
  have H := H1
  clear H1
  by_cases c10 : a0_1 ≥ 0
  ·rw [if_pos c10] at H
   have c10b0 : decide (0 ≤ a0_1) = true := decide_eq_true c10
   clear c10
   obtain rfl := Option.some.inj H
   go_enter Tryd.func9, Tryd.ntmps9
   go_wp2_with (first | ((with_reducible refine hc_ (N := 1) rfl ?_); refine ed_ ?hg (N := 1) ?hd (cs := #[.int .i64 a0_0, .int .i64 a0_1, .int .i64 a0_2, .int .i64 a0_3]) (t := 26) ?hr ?_; (case hd => rfl); (case hg => rfl); (case hr => first | (go_simp; done) | (go_simp; rfl)); intro gb101 hg w11 hbox hb; have n0_ := ba_.mk (pa_ (by repeat (first | (with_reducible first | exact HB.out | apply da_ | apply aa_ | apply ca_) | exact HB.out)) hb); have n1_ := ba_.mk (hbox); have n2_ := ba_.mk ((by rw [hg]; exact (wa_ (by repeat (first | (with_reducible first | exact HB.out | apply da_ | apply aa_ | apply ca_) | exact HB.out))) : w.heap.size ≤ gb101)); have n3_ := ba_.mk ((by rw [hg]; exact (wa_ (by repeat (first | (with_reducible first | exact HB.out | apply da_ | apply aa_ | apply ca_) | exact HB.out))) : w.heap.size ≤ gb101)); clear HB; have HB := n0_; have BK101 := n1_; have GW101 := n2_; have GE101 := n3_; clear n0_ n1_ n2_ n3_; clear hb hbox hg; have hcz12_0 : w11.cell? ⟨gb101, 0, none⟩ = some (.int .i64 a0_0) := (ga_ BK101.out 0).trans rfl; have hcz12_1 : w11.cell? ⟨gb101, 1, none⟩ = some (.int .i64 a0_1) := (ga_ BK101.out 1).trans rfl; have hcz12_2 : w11.cell? ⟨gb101, 2, none⟩ = some (.int .i64 a0_2) := (ga_ BK101.out 2).trans rfl; have hcz12_3 : w11.cell? ⟨gb101, 3, none⟩ = some (.int .i64 a0_3) := (ga_ BK101.out 3).trans rfl; have hfz12_0 := ha_ BK101.out 0; have hfz12_1 := ha_ BK101.out 1; have hfz12_2 := ha_ BK101.out 2; have hfz12_3 := ha_ BK101.out 3) | ((with_reducible refine hc_ (N := 9) rfl ?_); refine Kd.ai_ (Kd.int .i64) _ 3 ?hg (N := 9) ?hd (xs := ([a0_0, a0_2, a0_3] : List Int)) (inner := [.int .i64 a0_0, .int .i64 a0_2, .int .i64 a0_3]) (ok := fun _ => True) (okp := fun _ => True) ?hr ?hp (fun _ hk => hk) trivial (Below.refl _ _) (Nat.le_refl _) (by simp) ?_; (case hd => rfl); (case hg => rfl); (case hr => first | (go_simp; done) | (go_simp; rfl)); (case hp => exact (Reps.one (show Kd.M (Kd.int .i64) _ _ _ a0_0 [.int .i64 a0_0] from rfl) (Reps.one (show Kd.M (Kd.int .i64) _ _ _ a0_2 [.int .i64 a0_2] from rfl) (Reps.one (show Kd.M (Kd.int .i64) _ _ _ a0_3 [.int .i64 a0_3] from rfl) (Reps.none _ _))))); intro v103 w13 ho14 hb hg_ hnew_; clear hg_ hnew_; (first | rw [← Ny102.out] at ho14 | (simp only [Int.reduceToNat] at ho14; rw [← Ny102.out] at ho14)); have n0_ := ba_.mk (Kd.wc_ ho14 (wa_ (by repeat (first | (with_reducible first | exact HB.out | apply da_ | apply aa_ | apply ca_ | refine ia_ ?_ GE101.out) | exact HB.out)))); have n1_ := ba_.mk (zb_ (g := gb101) (o := .cells #[.int .i64 a0_0, .int .i64 a0_1, .int .i64 a0_2, .int .i64 a0_3] 26 (0, 0)) (by (with_reducible repeat (first | refine ra_ ?_ _ | refine ab_ ?_ | refine qa_ ?_ _)); exact BK101.out) hb); have n2_ := ba_.mk (pa_ (by repeat (first | (with_reducible first | exact HB.out | apply da_ | apply aa_ | apply ca_ | refine ia_ ?_ GE101.out) | exact HB.out)) hb); clear BK101; clear HB; have HO104 := n0_; have BK101 := n1_; have HB := n2_; clear n0_ n1_ n2_; clear hb ho14; obtain ⟨Ao15, co15, eo15⟩ := Kd.nc_ HO104.out; subst eo15) | ((with_reducible refine la_ (f := 15) rfl ?_); refine wb_ (some 10) rfl rfl Tryd.func15 (by kernel_rfl) rfl #[.slice Ao15 y102.length co15, .func (.func 16) #[] #[]] rfl (by (try simp only [List.map_toArray, List.map_cons, List.map_nil]); first | done | rfl | (simp only [List.length_drop, List.length_take]; rfl)) ?_; (with_reducible refine (vi_.calls _ _ y102 false _ ?side1 ?side2 A2.out).mono ?_); (case side1 => repeat (first | exact (Kd.lb_ HO104.out).2.2 | (with_reducible refine Kd.zc_ ?_ _) | (with_reducible refine Kd.ad_ ?_ _) | (with_reducible refine Kd.md_ ?_))); (case side2 => exact (Kd.lb_ HO104.out).2.1); rintro e w16 ⟨rfl, hb⟩; refine ⟨_, rfl, ?_⟩; have n0_ := ba_.mk (Kd.vc_ (by (with_reducible repeat (first | apply Kd.ta_ | apply Kd.ua_ | apply Kd.db_)); exact HO104.out) hb); have n1_ := ba_.mk (zb_ (g := gb101) (o := .cells #[.int .i64 a0_0, .int .i64 a0_1, .int .i64 a0_2, .int .i64 a0_3] 26 (0, 0)) (by (with_reducible repeat (first | refine ra_ ?_ _ | refine ab_ ?_ | refine qa_ ?_ _)); exact BK101.out) hb); have n2_ := ba_.mk (pa_ (by repeat (first | (with_reducible first | exact HB.out | apply da_ | apply aa_ | apply ca_ | refine ia_ ?_ GE101.out) | exact HB.out)) hb); clear HO104; clear BK101; clear HB; have HO104 := n0_; have BK101 := n1_; have HB := n2_; clear n0_ n1_ n2_; (try clear hb); (try clear hb2); (try clear hk); (try clear hi); have hcz17_0 : w16.cell? ⟨gb101, 0, none⟩ = some (.int .i64 a0_0) := (ga_ BK101.out 0).trans rfl; have hcz17_1 : w16.cell? ⟨gb101, 1, none⟩ = some (.int .i64 a0_1) := (ga_ BK101.out 1).trans rfl; have hcz17_2 : w16.cell? ⟨gb101, 2, none⟩ = some (.int .i64 a0_2) := (ga_ BK101.out 2).trans rfl; have hcz17_3 : w16.cell? ⟨gb101, 3, none⟩ = some (.int .i64 a0_3) := (ga_ BK101.out 3).trans rfl; have hfz17_0 := ha_ BK101.out 0; have hfz17_1 := ha_ BK101.out 1; have hfz17_2 := ha_ BK101.out 2; have hfz17_3 := ha_ BK101.out 3))
   go_ret
   exact ⟨by first | rfl | (simp [xa_, ya_] <;> rfl) | (simp [*, xa_, ya_] <;> rfl), by repeat (first | (with_reducible first | exact HB.out | apply da_ | apply aa_ | apply ca_ | refine ia_ ?_ GE101.out) | exact HB.out)⟩
  ·rw [if_neg c10] at H
   have c10b0 : decide (0 ≤ a0_1) = false := decide_eq_false c10
   clear c10
   obtain rfl := Option.some.inj H
   go_enter Tryd.func9, Tryd.ntmps9
   go_wp2_with (first | ((with_reducible refine hc_ (N := 1) rfl ?_); refine ed_ ?hg (N := 1) ?hd (cs := #[.int .i64 a0_0, .int .i64 a0_1, .int .i64 a0_2, .int .i64 a0_3]) (t := 26) ?hr ?_; (case hd => rfl); (case hg => rfl); (case hr => first | (go_simp; done) | (go_simp; rfl)); intro gb101 hg w18 hbox hb; have n0_ := ba_.mk (pa_ (by repeat (first | (with_reducible first | exact HB.out | apply da_ | apply aa_ | apply ca_) | exact HB.out)) hb); have n1_ := ba_.mk (hbox); have n2_ := ba_.mk ((by rw [hg]; exact (wa_ (by repeat (first | (with_reducible first | exact HB.out | apply da_ | apply aa_ | apply ca_) | exact HB.out))) : w.heap.size ≤ gb101)); have n3_ := ba_.mk ((by rw [hg]; exact (wa_ (by repeat (first | (with_reducible first | exact HB.out | apply da_ | apply aa_ | apply ca_) | exact HB.out))) : w.heap.size ≤ gb101)); clear HB; have HB := n0_; have BK101 := n1_; have GW101 := n2_; have GE101 := n3_; clear n0_ n1_ n2_ n3_; clear hb hbox hg; have hcz19_0 : w18.cell? ⟨gb101, 0, none⟩ = some (.int .i64 a0_0) := (ga_ BK101.out 0).trans rfl; have hcz19_1 : w18.cell? ⟨gb101, 1, none⟩ = some (.int .i64 a0_1) := (ga_ BK101.out 1).trans rfl; have hcz19_2 : w18.cell? ⟨gb101, 2, none⟩ = some (.int .i64 a0_2) := (ga_ BK101.out 2).trans rfl; have hcz19_3 : w18.cell? ⟨gb101, 3, none⟩ = some (.int .i64 a0_3) := (ga_ BK101.out 3).trans rfl; have hfz19_0 := ha_ BK101.out 0; have hfz19_1 := ha_ BK101.out 1; have hfz19_2 := ha_ BK101.out 2; have hfz19_3 := ha_ BK101.out 3) | ((with_reducible refine hc_ (N := 9) rfl ?_); refine Kd.ai_ (Kd.int .i64) _ 3 ?hg (N := 9) ?hd (xs := ([a0_0, a0_2, a0_3] : List Int)) (inner := [.int .i64 a0_0, .int .i64 a0_2, .int .i64 a0_3]) (ok := fun _ => True) (okp := fun _ => True) ?hr ?hp (fun _ hk => hk) trivial (Below.refl _ _) (Nat.le_refl _) (by simp) ?_; (case hd => rfl); (case hg => rfl); (case hr => first | (go_simp; done) | (go_simp; rfl)); (case hp => exact (Reps.one (show Kd.M (Kd.int .i64) _ _ _ a0_0 [.int .i64 a0_0] from rfl) (Reps.one (show Kd.M (Kd.int .i64) _ _ _ a0_2 [.int .i64 a0_2] from rfl) (Reps.one (show Kd.M (Kd.int .i64) _ _ _ a0_3 [.int .i64 a0_3] from rfl) (Reps.none _ _))))); intro v103 w20 ho21 hb hg_ hnew_; clear hg_ hnew_; (first | rw [← Ny102.out] at ho21 | (simp only [Int.reduceToNat] at ho21; rw [← Ny102.out] at ho21)); have n0_ := ba_.mk (Kd.wc_ ho21 (wa_ (by repeat (first | (with_reducible first | exact HB.out | apply da_ | apply aa_ | apply ca_ | refine ia_ ?_ GE101.out) | exact HB.out)))); have n1_ := ba_.mk (zb_ (g := gb101) (o := .cells #[.int .i64 a0_0, .int .i64 a0_1, .int .i64 a0_2, .int .i64 a0_3] 26 (0, 0)) (by (with_reducible repeat (first | refine ra_ ?_ _ | refine ab_ ?_ | refine qa_ ?_ _)); exact BK101.out) hb); have n2_ := ba_.mk (pa_ (by repeat (first | (with_reducible first | exact HB.out | apply da_ | apply aa_ | apply ca_ | refine ia_ ?_ GE101.out) | exact HB.out)) hb); clear BK101; clear HB; have HO104 := n0_; have BK101 := n1_; have HB := n2_; clear n0_ n1_ n2_; clear hb ho21; obtain ⟨Ao22, co22, eo22⟩ := Kd.nc_ HO104.out; subst eo22) | ((with_reducible refine la_ (f := 15) rfl ?_); refine wb_ (some 10) rfl rfl Tryd.func15 (by kernel_rfl) rfl #[.slice Ao22 y102.length co22, .func (.func 16) #[] #[]] rfl (by (try simp only [List.map_toArray, List.map_cons, List.map_nil]); first | done | rfl | (simp only [List.length_drop, List.length_take]; rfl)) ?_; (with_reducible refine (vi_.calls _ _ y102 false _ ?side1 ?side2 A2.out).mono ?_); (case side1 => repeat (first | exact (Kd.lb_ HO104.out).2.2 | (with_reducible refine Kd.zc_ ?_ _) | (with_reducible refine Kd.ad_ ?_ _) | (with_reducible refine Kd.md_ ?_))); (case side2 => exact (Kd.lb_ HO104.out).2.1); rintro e w23 ⟨rfl, hb⟩; refine ⟨_, rfl, ?_⟩; have n0_ := ba_.mk (Kd.vc_ (by (with_reducible repeat (first | apply Kd.ta_ | apply Kd.ua_ | apply Kd.db_)); exact HO104.out) hb); have n1_ := ba_.mk (zb_ (g := gb101) (o := .cells #[.int .i64 a0_0, .int .i64 a0_1, .int .i64 a0_2, .int .i64 a0_3] 26 (0, 0)) (by (with_reducible repeat (first | refine ra_ ?_ _ | refine ab_ ?_ | refine qa_ ?_ _)); exact BK101.out) hb); have n2_ := ba_.mk (pa_ (by repeat (first | (with_reducible first | exact HB.out | apply da_ | apply aa_ | apply ca_ | refine ia_ ?_ GE101.out) | exact HB.out)) hb); clear HO104; clear BK101; clear HB; have HO104 := n0_; have BK101 := n1_; have HB := n2_; clear n0_ n1_ n2_; (try clear hb); (try clear hb2); (try clear hk); (try clear hi); have hcz24_0 : w23.cell? ⟨gb101, 0, none⟩ = some (.int .i64 a0_0) := (ga_ BK101.out 0).trans rfl; have hcz24_1 : w23.cell? ⟨gb101, 1, none⟩ = some (.int .i64 a0_1) := (ga_ BK101.out 1).trans rfl; have hcz24_2 : w23.cell? ⟨gb101, 2, none⟩ = some (.int .i64 a0_2) := (ga_ BK101.out 2).trans rfl; have hcz24_3 : w23.cell? ⟨gb101, 3, none⟩ = some (.int .i64 a0_3) := (ga_ BK101.out 3).trans rfl; have hfz24_0 := ha_ BK101.out 0; have hfz24_1 := ha_ BK101.out 1; have hfz24_2 := ha_ BK101.out 2; have hfz24_3 := ha_ BK101.out 3))
   go_ret
   exact ⟨by first | rfl | (simp [xa_, ya_] <;> rfl) | (simp [*, xa_, ya_] <;> rfl), by repeat (first | (with_reducible first | exact HB.out | apply da_ | apply aa_ | apply ca_ | refine ia_ ?_ GE101.out) | exact HB.out)⟩
def kd_.f (a0_0 : Int) (a0_1 : Int) (a0_2 : Int) (a0_3 : Int) : Option (List Int × Int) := (wd_.f a0_0 a0_1 a0_2 a0_3).bind fun t107 => (if t107 = true then (some ((([a0_0, wrap64 (Int.tdiv a0_1 1024), Int.tmod (wrap64 (Int.tdiv a0_1 32)) 32, Int.tmod a0_1 32, a0_2, a0_3] : List Int)), 0)) else (some (([] : List Int), 2)))
set_option maxHeartbeats 8000000 in
set_option maxRecDepth 100000 in
theorem kd_.calls (a0_0 : Int) (a0_1 : Int) (a0_2 : Int) (a0_3 : Int) (r1 : List Int) (r2 : Int) (w : World) (h : kd_.f a0_0 a0_1 a0_2 a0_3 = some (r1, r2)) :
  Calls Tryd.prog 6 #[.agg #[.int .i64 a0_0, .int .i64 a0_1, .int .i64 a0_2, .int .i64 a0_3]] w fun e w' => ∃ v0_ : Value, e = .returned (.tuple #[v0_, .int .i64 r2]) ∧ Kd.R (Kd.int .i64) 3 w' w.heap.size (fun _ => True) v0_ r1 ∧ Below w.heap.size w w' := by
 have hu26 := Tryd.underlying26
 have HB := ba_.mk (Below.refl w.heap.size w)
 have H : ((wd_.f a0_0 a0_1 a0_2 a0_3).bind fun t107 => (if t107 = true then (some ((([a0_0, wrap64 (Int.tdiv a0_1 1024), Int.tmod (wrap64 (Int.tdiv a0_1 32)) 32, Int.tmod a0_1 32, a0_2, a0_3] : List Int)), 0)) else (some (([] : List Int), 2)))) = some (r1, r2) := h
 clear h
 replace H := Option.bind_eq_some_iff.mp H
 obtain ⟨t107, A20, H⟩ := H
 replace H : (if t107 = true then (some ((([a0_0, wrap64 (Int.tdiv a0_1 1024), Int.tmod (wrap64 (Int.tdiv a0_1 32)) 32, Int.tmod a0_1 32, a0_2, a0_3] : List Int)), 0)) else (some (([] : List Int), 2))) = some (r1, r2) := H
 have A2 := ba_.mk A20
 clear A20
 by_cases c3 : t107 = true
 ·subst c3
  have H1 : (some ((([a0_0, wrap64 (Int.tdiv a0_1 1024), Int.tmod (wrap64 (Int.tdiv a0_1 32)) 32, Int.tmod a0_1 32, a0_2, a0_3] : List Int)), 0)) = some (r1, r2) := by rw [if_pos rfl] at H; exact H
  clear H
  have H := H1
  clear H1
  obtain ⟨y108, hy108⟩ : ∃ y_ : List Int, y_ = (([a0_0, wrap64 (Int.tdiv a0_1 1024), Int.tmod (wrap64 (Int.tdiv a0_1 32)) 32, Int.tmod a0_1 32, a0_2, a0_3] : List Int)) := ⟨_, rfl⟩
  replace H : (some (y108, 0)) = some (r1, r2) := by first | (rw [hy108]; with_reducible exact H) | (have H2_ := (Option.bind_some _ _).symm.trans H; rw [hy108]; with_reducible exact H2_) | (have H2_ := (Option.bind_some _ _).symm.trans H; with_reducible exact H2_) | with_reducible exact H | (rw [hy108]; exact H) | exact H
  have Ny108 := ba_.mk hy108
  clear hy108
  simp only [Option.some.injEq, Prod.mk.injEq] at H
  obtain ⟨rfl, rfl⟩ := H
  go_enter Tryd.func6, Tryd.ntmps6
  go_wp2_with (first | ((with_reducible refine hc_ (N := 1) rfl ?_); refine ed_ ?hg (N := 1) ?hd (cs := #[.int .i64 a0_0, .int .i64 a0_1, .int .i64 a0_2, .int .i64 a0_3]) (t := 26) ?hr ?_; (case hd => rfl); (case hg => rfl); (case hr => first | (go_simp; done) | (go_simp; rfl)); intro gb106 hg w4 hbox hb; have n0_ := ba_.mk (pa_ (by repeat (first | (with_reducible first | exact HB.out | apply da_ | apply aa_ | apply ca_) | exact HB.out)) hb); have n1_ := ba_.mk (hbox); have n2_ := ba_.mk ((by rw [hg]; exact (wa_ (by repeat (first | (with_reducible first | exact HB.out | apply da_ | apply aa_ | apply ca_) | exact HB.out))) : w.heap.size ≤ gb106)); have n3_ := ba_.mk ((by rw [hg]; exact (wa_ (by repeat (first | (with_reducible first | exact HB.out | apply da_ | apply aa_ | apply ca_) | exact HB.out))) : w.heap.size ≤ gb106)); clear HB; have HB := n0_; have BK106 := n1_; have GW106 := n2_; have GE106 := n3_; clear n0_ n1_ n2_ n3_; clear hb hbox hg; have hcz5_0 : w4.cell? ⟨gb106, 0, none⟩ = some (.int .i64 a0_0) := (ga_ BK106.out 0).trans rfl; have hcz5_1 : w4.cell? ⟨gb106, 1, none⟩ = some (.int .i64 a0_1) := (ga_ BK106.out 1).trans rfl; have hcz5_2 : w4.cell? ⟨gb106, 2, none⟩ = some (.int .i64 a0_2) := (ga_ BK106.out 2).trans rfl; have hcz5_3 : w4.cell? ⟨gb106, 3, none⟩ = some (.int .i64 a0_3) := (ga_ BK106.out 3).trans rfl; have hfz5_0 := ha_ BK106.out 0; have hfz5_1 := ha_ BK106.out 1; have hfz5_2 := ha_ BK106.out 2; have hfz5_3 := ha_ BK106.out 3) | ((with_reducible refine la_ (f := 9) rfl ?_); refine wb_ (some 5) rfl rfl Tryd.func9 (by kernel_rfl) rfl #[.agg #[.int .i64 a0_0, .int .i64 a0_1, .int .i64 a0_2, .int .i64 a0_3]] rfl (by (try simp only [List.map_toArray, List.map_cons, List.map_nil]); first | done | rfl | (simp only [List.length_drop, List.length_take]; rfl)) ?_; (with_reducible refine (wd_.calls a0_0 a0_1 a0_2 a0_3 true _ A2.out).mono ?_); rintro e w6 ⟨rfl, hb⟩; refine ⟨_, rfl, ?_⟩; have n0_ := ba_.mk (zb_ (g := gb106) (o := .cells #[.int .i64 a0_0, .int .i64 a0_1, .int .i64 a0_2, .int .i64 a0_3] 26 (0, 0)) (by (with_reducible repeat (first | refine ra_ ?_ _ | refine ab_ ?_ | refine qa_ ?_ _)); exact BK106.out) hb); have n1_ := ba_.mk (pa_ (by repeat (first | (with_reducible first | exact HB.out | apply da_ | apply aa_ | apply ca_ | refine ia_ ?_ GE106.out) | exact HB.out)) hb); clear BK106; clear HB; have BK106 := n0_; have HB := n1_; clear n0_ n1_; (try clear hb); (try clear hb2); (try clear hk); (try clear hi); have hcz7_0 : w6.cell? ⟨gb106, 0, none⟩ = some (.int .i64 a0_0) := (ga_ BK106.out 0).trans rfl; have hcz7_1 : w6.cell? ⟨gb106, 1, none⟩ = some (.int .i64 a0_1) := (ga_ BK106.out 1).trans rfl; have hcz7_2 : w6.cell? ⟨gb106, 2, none⟩ = some (.int .i64 a0_2) := (ga_ BK106.out 2).trans rfl; have hcz7_3 : w6.cell? ⟨gb106, 3, none⟩ = some (.int .i64 a0_3) := (ga_ BK106.out 3).trans rfl; have hfz7_0 := ha_ BK106.out 0; have hfz7_1 := ha_ BK106.out 1; have hfz7_2 := ha_ BK106.out 2; have hfz7_3 := ha_ BK106.out 3) | ((with_reducible refine hc_ (N := 23) rfl ?_); refine Kd.ai_ (Kd.int .i64) _ 3 ?hg (N := 23) ?hd (xs := ([a0_0, wrap64 (Int.tdiv a0_1 1024), Int.tmod (wrap64 (Int.tdiv a0_1 32)) 32, Int.tmod a0_1 32, a0_2, a0_3] : List Int)) (inner := [.int .i64 a0_0, .int .i64 (wrap64 (Int.tdiv a0_1 1024)), .int .i64 (Int.tmod (wrap64 (Int.tdiv a0_1 32)) 32), .int .i64 (Int.tmod a0_1 32), .int .i64 a0_2, .int .i64 a0_3]) (ok := fun _ => True) (okp := fun _ => True) ?hr ?hp (fun _ hk => hk) trivial (Below.refl _ _) (Nat.le_refl _) (by simp) ?_; (case hd => rfl); (case hg => rfl); (case hr => first | (go_simp; done) | (go_simp; rfl)); (case hp => exact (Reps.one (show Kd.M (Kd.int .i64) _ _ _ a0_0 [.int .i64 a0_0] from rfl) (Reps.one (show Kd.M (Kd.int .i64) _ _ _ (wrap64 (Int.tdiv a0_1 1024)) [.int .i64 (wrap64 (Int.tdiv a0_1 1024))] from rfl) (Reps.one (show Kd.M (Kd.int .i64) _ _ _ (Int.tmod (wrap64 (Int.tdiv a0_1 32)) 32) [.int .i64 (Int.tmod (wrap64 (Int.tdiv a0_1 32)) 32)] from rfl) (Reps.one (show Kd.M (Kd.int .i64) _ _ _ (Int.tmod a0_1 32) [.int .i64 (Int.tmod a0_1 32)] from rfl) (Reps.one (show Kd.M (Kd.int .i64) _ _ _ a0_2 [.int .i64 a0_2] from rfl) (Reps.one (show Kd.M (Kd.int .i64) _ _ _ a0_3 [.int .i64 a0_3] from rfl) (Reps.none _ _)))))))); intro v109 w8 ho9 hb hg_ hnew_; clear hg_ hnew_; (first | rw [← Ny108.out] at ho9 | (simp only [Int.reduceToNat] at ho9; rw [← Ny108.out] at ho9)); have n0_ := ba_.mk (Kd.wc_ ho9 (wa_ (by repeat (first | (with_reducible first | exact HB.out | apply da_ | apply aa_ | apply ca_ | refine ia_ ?_ GE106.out) | exact HB.out)))); have n1_ := ba_.mk (zb_ (g := gb106) (o := .cells #[.int .i64 a0_0, .int .i64 a0_1, .int .i64 a0_2, .int .i64 a0_3] 26 (0, 0)) (by (with_reducible repeat (first | refine ra_ ?_ _ | refine ab_ ?_ | refine qa_ ?_ _)); exact BK106.out) hb); have n2_ := ba_.mk (pa_ (by repeat (first | (with_reducible first | exact HB.out | apply da_ | apply aa_ | apply ca_ | refine ia_ ?_ GE106.out) | exact HB.out)) hb); clear BK106; clear HB; have HO110 := n0_; have BK106 := n1_; have HB := n2_; clear n0_ n1_ n2_; clear hb ho9))
  go_ret2
  exact ⟨_, by first | rfl | (simp [xa_, ya_] <;> rfl) | (simp [*, xa_, ya_] <;> rfl), by (with_reducible repeat (first | apply Kd.ta_ | apply Kd.ua_ | apply Kd.db_)); exact HO110.out, by repeat (first | (with_reducible first | exact HB.out | apply da_ | apply aa_ | apply ca_ | refine ia_ ?_ GE106.out) | exact HB.out)⟩
 ·replace c3 := Bool.eq_false_iff.mpr c3
  subst c3
  have H1 : (some (([] : List Int), 2)) = some (r1, r2) := by rw [if_neg (show ¬ (false = true) by decide)] at H; exact H
  clear H
  have H := H1
  clear H1
  simp only [Option.some.injEq, Prod.mk.injEq] at H
  obtain ⟨rfl, rfl⟩ := H
  go_enter Tryd.func6, Tryd.ntmps6
  go_wp2_with (first | ((with_reducible refine hc_ (N := 1) rfl ?_); refine ed_ ?hg (N := 1) ?hd (cs := #[.int .i64 a0_0, .int .i64 a0_1, .int .i64 a0_2, .int .i64 a0_3]) (t := 26) ?hr ?_; (case hd => rfl); (case hg => rfl); (case hr => first | (go_simp; done) | (go_simp; rfl)); intro gb106 hg w10 hbox hb; have n0_ := ba_.mk (pa_ (by repeat (first | (with_reducible first | exact HB.out | apply da_ | apply aa_ | apply ca_) | exact HB.out)) hb); have n1_ := ba_.mk (hbox); have n2_ := ba_.mk ((by rw [hg]; exact (wa_ (by repeat (first | (with_reducible first | exact HB.out | apply da_ | apply aa_ | apply ca_) | exact HB.out))) : w.heap.size ≤ gb106)); have n3_ := ba_.mk ((by rw [hg]; exact (wa_ (by repeat (first | (with_reducible first | exact HB.out | apply da_ | apply aa_ | apply ca_) | exact HB.out))) : w.heap.size ≤ gb106)); clear HB; have HB := n0_; have BK106 := n1_; have GW106 := n2_; have GE106 := n3_; clear n0_ n1_ n2_ n3_; clear hb hbox hg; have hcz11_0 : w10.cell? ⟨gb106, 0, none⟩ = some (.int .i64 a0_0) := (ga_ BK106.out 0).trans rfl; have hcz11_1 : w10.cell? ⟨gb106, 1, none⟩ = some (.int .i64 a0_1) := (ga_ BK106.out 1).trans rfl; have hcz11_2 : w10.cell? ⟨gb106, 2, none⟩ = some (.int .i64 a0_2) := (ga_ BK106.out 2).trans rfl; have hcz11_3 : w10.cell? ⟨gb106, 3, none⟩ = some (.int .i64 a0_3) := (ga_ BK106.out 3).trans rfl; have hfz11_0 := ha_ BK106.out 0; have hfz11_1 := ha_ BK106.out 1; have hfz11_2 := ha_ BK106.out 2; have hfz11_3 := ha_ BK106.out 3) | ((with_reducible refine la_ (f := 9) rfl ?_); refine wb_ (some 5) rfl rfl Tryd.func9 (by kernel_rfl) rfl #[.agg #[.int .i64 a0_0, .int .i64 a0_1, .int .i64 a0_2, .int .i64 a0_3]] rfl (by (try simp only [List.map_toArray, List.map_cons, List.map_nil]); first | done | rfl | (simp only [List.length_drop, List.length_take]; rfl)) ?_; (with_reducible refine (wd_.calls a0_0 a0_1 a0_2 a0_3 false _ A2.out).mono ?_); rintro e w12 ⟨rfl, hb⟩; refine ⟨_, rfl, ?_⟩; have n0_ := ba_.mk (zb_ (g := gb106) (o := .cells #[.int .i64 a0_0, .int .i64 a0_1, .int .i64 a0_2, .int .i64 a0_3] 26 (0, 0)) (by (with_reducible repeat (first | refine ra_ ?_ _ | refine ab_ ?_ | refine qa_ ?_ _)); exact BK106.out) hb); have n1_ := ba_.mk (pa_ (by repeat (first | (with_reducible first | exact HB.out | apply da_ | apply aa_ | apply ca_ | refine ia_ ?_ GE106.out) | exact HB.out)) hb); clear BK106; clear HB; have BK106 := n0_; have HB := n1_; clear n0_ n1_; (try clear hb); (try clear hb2); (try clear hk); (try clear hi)))
  go_ret2
  exact ⟨_, by first | rfl | (simp [xa_, ya_] <;> rfl) | (simp [*, xa_, ya_] <;> rfl), by first | exact Kd.ue_ _ _ _ _ _ | exact Kd.qg_ _ _ _ _ _ | exact Kd.ug_ _ _ _ _ _ | exact Kd.rg_ _ _ _ _ _ | exact Kd.tg_ _ _ _ _ _, by repeat (first | (with_reducible first | exact HB.out | apply da_ | apply aa_ | apply ca_ | refine ia_ ?_ GE106.out) | exact HB.out)⟩
def xd_.f (a0 : ByteArray) : Option (Bool) := if (a0.size : Int) = 74 then ((kj_.f a0 (⟨#[48, 49, 63]⟩ : ByteArray)).bind fun t111 => (some (t111.toList == ([] : List UInt8)))) else (some false)
set_option maxHeartbeats 8000000 in
set_option maxRecDepth 100000 in
theorem xd_.calls (a0 : ByteArray) (r : Bool) (w : World) (h : xd_.f a0 = some r) :
  Calls Tryd.prog 46 #[.string a0] w fun e w' => e = .returned (.bool r) ∧ Below w.heap.size w w' := by
 have HB := ba_.mk (Below.refl w.heap.size w)
 have H : (if (a0.size : Int) = 74 then ((kj_.f a0 (⟨#[48, 49, 63]⟩ : ByteArray)).bind fun t111 => (some (t111.toList == ([] : List UInt8)))) else (some false)) = some r := h
 clear h
 by_cases c2 : (a0.size : Int) = 74
 ·rw [if_pos c2] at H
  have c2b0 : ((a0.size : Int) == 74) = true := beq_iff_eq.mpr c2
  have c2b1 : ((a0.size : Int) != 74) = false := bne_eq_false_iff_eq.mpr c2
  clear c2
  replace H := Option.bind_eq_some_iff.mp H
  obtain ⟨t111, A30, H⟩ := H
  replace H : (some (t111.toList == ([] : List UInt8))) = some r := H
  have A3 := ba_.mk A30
  clear A30
  obtain rfl := Option.some.inj H
  go_enter Tryd.func46, Tryd.ntmps46
  go_wp2_with (first | (go_at_call 62; (with_reducible refine (kj_.calls a0 (⟨#[48, 49, 63]⟩ : ByteArray) t111 _ A3.out).mono ?_); rintro e w4 ⟨rfl, hb⟩; have n0_ := ba_.mk (pa_ (by repeat (first | (with_reducible first | exact HB.out | apply da_ | apply aa_ | apply ca_) | exact HB.out)) hb); clear HB; have HB := n0_; clear n0_; (try clear hb); (try clear hb2); (try clear hk); (try clear hi)))
  go_ret
  exact ⟨by first | rfl | (simp [xa_, ya_] <;> rfl) | (simp [*, xa_, ya_] <;> rfl), by repeat (first | (with_reducible first | exact HB.out | apply da_ | apply aa_ | apply ca_) | exact HB.out)⟩
 ·rw [if_neg c2] at H
  have c2b0 : ((a0.size : Int) == 74) = false := beq_eq_false_iff_ne.mpr c2
  have c2b1 : ((a0.size : Int) != 74) = true := bne_iff_ne.mpr c2
  obtain rfl := Option.some.inj H
  go_enter Tryd.func46, Tryd.ntmps46
  go_wp2
  go_ret
  exact ⟨by first | rfl | (simp [xa_, ya_] <;> rfl) | (simp [*, xa_, ya_] <;> rfl), by repeat (first | (with_reducible first | exact HB.out | apply da_ | apply aa_ | apply ca_) | exact HB.out)⟩
def ff_.f (a0 : ByteArray) : Option (Bool) := if 0 ≤ 7 then (if 7 ≤ (a0.size : Int) then ((l_Count.f (a0.extract 0 7) (⟨#[49]⟩ : ByteArray)).bind fun t112 => (if t112 ≥ 4 then (if 67 ≤ (a0.size : Int) then ((l_Count.f (a0.extract 67 a0.size) (⟨#[48]⟩ : ByteArray)).bind fun t113 => (some (decide (t113 ≥ 4)))) else (none)) else (some false))) else (none)) else (none)
set_option maxHeartbeats 8000000 in
set_option maxRecDepth 100000 in
theorem ff_.calls (a0 : ByteArray) (r : Bool) (w : World) (h : ff_.f a0 = some r) :
  Calls Tryd.prog 47 #[.string a0] w fun e w' => e = .returned (.bool r) ∧ Below w.heap.size w w' := by
 have HB := ba_.mk (Below.refl w.heap.size w)
 have H : (if 0 ≤ 7 then (if 7 ≤ (a0.size : Int) then ((l_Count.f (a0.extract 0 7) (⟨#[49]⟩ : ByteArray)).bind fun t112 => (if t112 ≥ 4 then (if 67 ≤ (a0.size : Int) then ((l_Count.f (a0.extract 67 a0.size) (⟨#[48]⟩ : ByteArray)).bind fun t113 => (some (decide (t113 ≥ 4)))) else (none)) else (some false))) else (none)) else (none)) = some r := h
 clear h
 by_cases c2 : 0 ≤ 7
 ·rw [if_pos c2] at H
  have c2b0 := eq_true c2
  have c2b1 : decide (0 ≤ 7) = true := decide_eq_true c2
  clear c2
  by_cases c3 : 7 ≤ (a0.size : Int)
  ·rw [if_pos c3] at H
   have c3b0 := eq_true c3
   have c3b1 : decide (7 ≤ (a0.size : Int)) = true := decide_eq_true c3
   clear c3
   replace H := Option.bind_eq_some_iff.mp H
   obtain ⟨t112, A40, H⟩ := H
   replace H : (if t112 ≥ 4 then (if 67 ≤ (a0.size : Int) then ((l_Count.f (a0.extract 67 a0.size) (⟨#[48]⟩ : ByteArray)).bind fun t113 => (some (decide (t113 ≥ 4)))) else (none)) else (some false)) = some r := H
   have A4 := ba_.mk A40
   clear A40
   by_cases c5 : t112 ≥ 4
   ·rw [if_pos c5] at H
    have c5b0 : decide (4 ≤ t112) = true := decide_eq_true c5
    clear c5
    by_cases c6 : 67 ≤ (a0.size : Int)
    ·rw [if_pos c6] at H
     have c6b0 := eq_true c6
     have c6b1 : decide (67 ≤ (a0.size : Int)) = true := decide_eq_true c6
     clear c6
     replace H := Option.bind_eq_some_iff.mp H
     obtain ⟨t113, A70, H⟩ := H
     replace H : (some (decide (t113 ≥ 4))) = some r := H
     have A7 := ba_.mk A70
     clear A70
     obtain rfl := Option.some.inj H
     go_enter Tryd.func47, Tryd.ntmps47
     go_wp2_with (first | ((with_reducible refine la_ (f := 63) rfl ?_); refine wb_ (some 5) rfl rfl Tryd.func63 (by kernel_rfl) rfl #[.string (a0.extract 0 7), .string (⟨#[49]⟩ : ByteArray)] rfl (by (try simp only [List.map_toArray, List.map_cons, List.map_nil]); first | done | rfl | (simp only [List.length_drop, List.length_take]; rfl)) ?_; (with_reducible refine (l_Count.calls (a0.extract 0 7) (⟨#[49]⟩ : ByteArray) t112 _ A4.out).mono ?_); rintro e w8 ⟨rfl, hb⟩; refine ⟨_, rfl, ?_⟩; have n0_ := ba_.mk (pa_ (by repeat (first | (with_reducible first | exact HB.out | apply da_ | apply aa_ | apply ca_) | exact HB.out)) hb); clear HB; have HB := n0_; clear n0_; (try clear hb); (try clear hb2); (try clear hk); (try clear hi)) | (go_at_call 63; (with_reducible refine (l_Count.calls (a0.extract 67 a0.size) (⟨#[48]⟩ : ByteArray) t113 _ A7.out).mono ?_); rintro e w9 ⟨rfl, hb⟩; have n0_ := ba_.mk (pa_ (by repeat (first | (with_reducible first | exact HB.out | apply da_ | apply aa_ | apply ca_) | exact HB.out)) hb); clear HB; have HB := n0_; clear n0_; (try clear hb); (try clear hb2); (try clear hk); (try clear hi)))
     go_ret
     exact ⟨by first | rfl | (simp [xa_, ya_] <;> rfl) | (simp [*, xa_, ya_] <;> rfl), by repeat (first | (with_reducible first | exact HB.out | apply da_ | apply aa_ | apply ca_) | exact HB.out)⟩
    ·rw [if_neg c6] at H
     exact absurd H (by simp)
   ·rw [if_neg c5] at H
    have c5b0 : decide (4 ≤ t112) = false := decide_eq_false c5
    clear c5
    obtain rfl := Option.some.inj H
    go_enter Tryd.func47, Tryd.ntmps47
    go_wp2_with (first | ((with_reducible refine la_ (f := 63) rfl ?_); refine wb_ (some 5) rfl rfl Tryd.func63 (by kernel_rfl) rfl #[.string (a0.extract 0 7), .string (⟨#[49]⟩ : ByteArray)] rfl (by (try simp only [List.map_toArray, List.map_cons, List.map_nil]); first | done | rfl | (simp only [List.length_drop, List.length_take]; rfl)) ?_; (with_reducible refine (l_Count.calls (a0.extract 0 7) (⟨#[49]⟩ : ByteArray) t112 _ A4.out).mono ?_); rintro e w10 ⟨rfl, hb⟩; refine ⟨_, rfl, ?_⟩; have n0_ := ba_.mk (pa_ (by repeat (first | (with_reducible first | exact HB.out | apply da_ | apply aa_ | apply ca_) | exact HB.out)) hb); clear HB; have HB := n0_; clear n0_; (try clear hb); (try clear hb2); (try clear hk); (try clear hi)))
    go_ret
    exact ⟨by first | rfl | (simp [xa_, ya_] <;> rfl) | (simp [*, xa_, ya_] <;> rfl), by repeat (first | (with_reducible first | exact HB.out | apply da_ | apply aa_ | apply ca_) | exact HB.out)⟩
  ·rw [if_neg c3] at H
   exact absurd H (by simp)
 ·rw [if_neg c2] at H
  exact absurd H (by simp)
end Go.Proofs.YtpkhgapifnjbeaaDoor.TA
end
section
namespace Go.Proofs.YtpkhgapifnjbeaaDoor.TA
open Go.RowKit Go.Proofs.YtpkhgapifnjbeaaDoor.G Go.Proofs.YtpkhgapifnjbeaaDoorW.PrintWords Go.Proofs.YtpkhgapifnjbeaaDoorW.PrintLast Go.Proofs.YtpkhgapifnjbeaaDoorW.PrintMore
attribute [local go_sem] qc_ sc_ cd_ dd_ jc_ kc_ rc_ tc_
set_option linter.unusedVariables false
set_option linter.unusedSimpArgs false
end Go.Proofs.YtpkhgapifnjbeaaDoor.TA
end
section
namespace Go.Proofs.YtpkhgapifnjbeaaDoor.G
set_option linter.unusedVariables false
set_option linter.unusedSimpArgs false
open Go.RowKit Go.Sort Go.Lib.Hx Go.Proofs.YtpkhgapifnjbeaaDoorW.PrintWords Go.Proofs.YtpkhgapifnjbeaaDoorW.PrintLast Go.Proofs.YtpkhgapifnjbeaaDoorW.PrintMore
def ig_ (s : ByteArray) (j : Nat) : Int := (numsOf s).getD j 0
def symTo (s : ByteArray) (i : Nat) : Nat → Int
 | 0 => 0
 | k + 1 => symTo s i k * 2 + (ig_ s (7 + i * 5 + k) - 48) % 256
def hasQ (s : ByteArray) (i : Nat) : Bool := (List.range 5).any fun k => decide (ig_ s (7 + i * 5 + k) = 63)
def symS (s : ByteArray) (i : Nat) : Int := if hasQ s i = true then -1 else symTo s i 5
def ye_ (s : ByteArray) (i : Nat) : List Int := (List.range i).map (symS s) ++ List.replicate (12 - i) 0
def sq_ (s : ByteArray) : List Int := (List.range 12).map (symS s)
theorem pl_ (s : ByteArray) (j : Nat) : 0 ≤ ig_ s j ∧ ig_ s j < 256 := numsOf_range s j
theorem xm_ (s : ByteArray) (i : Nat) : ∀ k, 0 ≤ symTo s i k ∧ symTo s i k ≤ 300 * (2 ^ k - 1 : Nat)
 | 0 => ⟨Int.le_refl _, Int.le_refl _⟩
 | k + 1 => by
  have ih := xm_ s i k
  have h1 : (2 : Nat) ^ (k + 1) = 2 * 2 ^ k := by rw [Nat.pow_succ, Nat.mul_comm]
  have h2 : 1 ≤ (2 : Nat) ^ k := Nat.one_le_two_pow
  simp only [symTo]
  rw [h1]
  generalize (2 : Nat) ^ k = q at *
  omega
theorem pq_ (s : ByteArray) (i k : Nat) (hk : k ≤ 5) : 0 ≤ symTo s i k ∧ symTo s i k ≤ 9300 := by
 have h := xm_ s i k
 have h2 : (2 : Nat) ^ k ≤ 2 ^ 5 := Nat.pow_le_pow_right (by decide) hk
 have h3 : (2 : Nat) ^ 5 = 32 := rfl
 omega
theorem qj_ (s : ByteArray) (i : Nat) (hi : i ≤ 12) : (ye_ s i).length = 12 := by
 unfold ye_; rw [List.length_append, List.length_map, List.length_range, List.length_replicate]; omega
def uh_ (s : ByteArray) (i k : Nat) : List Int := (ye_ s i).set i (symTo s i k)
theorem vn_ (s : ByteArray) (i : Nat) (hi : i < 12) : uh_ s i 0 = ye_ s i := by
 unfold uh_ ye_
 apply List.ext_getElem
 ·simp
 ·intro j h1 h2
  rw [List.getElem_set]
  by_cases h : i = j
  ·subst h
   rw [if_pos rfl, List.getElem_append_right (by simp)]
   simp [symTo]
  ·rw [if_neg h]
theorem rq_ (s : ByteArray) (i k : Nat) (hi : i < 12) : rdOf (0 : Int) (uh_ s i k) (i : Int) = symTo s i k := by
 unfold rdOf uh_
 rw [Int.toNat_natCast, List.getD_eq_getElem?_getD, List.getElem?_set]
 rw [if_pos rfl, if_pos (by rw [qj_ s i (by omega)]; exact hi)]; rfl
theorem il_ (s : ByteArray) (i k : Nat) (v : Int) : (uh_ s i k).set i v = (ye_ s i).set i v := by
 unfold uh_; rw [List.set_set]
theorem si_ (s : ByteArray) (i : Nat) (hi : i < 12) : (ye_ s i).set i (symS s i) = ye_ s (i + 1) := by
 unfold ye_
 apply List.ext_getElem
 ·simp; omega
 ·intro j h1 h2
  rw [List.getElem_set]
  simp only [List.length_set, List.length_append, List.length_map, List.length_range, List.length_replicate] at h1
  by_cases h : i = j
  ·subst h
   rw [if_pos rfl, List.getElem_append_left (by simp)]
   simp
  ·rw [if_neg h]
   by_cases hlt : j < i
   ·rw [List.getElem_append_left (by simpa using hlt), List.getElem_append_left (by simp; omega)]
    simp
   ·rw [List.getElem_append_right (by simp; omega), List.getElem_append_right (by simp; omega)]
    simp
theorem xp_ (s : ByteArray) (a j : Nat) (hj : j < 5) (h : a + 5 ≤ s.size) : ig_ ((s.extract a s.size).extract 0 5) j = ig_ s (a + j) := by
 have e : ((s.extract a s.size).extract 0 5).data.toList = (s.data.toList.drop a).take 5 := by
  simp [ByteArray.extract, ByteArray.copySlice]
 unfold ig_ numsOf
 rw [e, List.getD_eq_getElem?_getD, List.getD_eq_getElem?_getD, List.getElem?_map, List.getElem?_map, List.getElem?_take, if_pos hj, List.getElem?_drop]
theorem qp_ (s : ByteArray) : ye_ s 12 = sq_ s := by unfold ye_ sq_; simp
theorem con_l (l a0 : ByteArray) (i : Nat) (hl : l.size = 5) (hx : ∀ j, j < 5 → ig_ l j = ig_ a0 (7 + i * 5 + j)) : se_.f l ⟨#[63]⟩ = some (hasQ a0 i) := by
 show some (decide (0 ≤ Lib.indexByte l.data.toList 63)) = _
 rw [← Lib.contains_iff_indexByte]
 congr 1
 have hn : l.data.toList.length = 5 := by rw [Array.length_toList]; exact hl
 have hb : ∀ j (h : j < l.data.toList.length), ig_ l j = (l.data.toList[j].toNat : Int) := by
  intro j h
  unfold ig_ numsOf
  rw [List.getD_eq_getElem?_getD, List.getElem?_map, List.getElem?_eq_getElem h]; rfl
 rw [Bool.eq_iff_iff, List.contains_iff_mem]
 unfold hasQ
 rw [List.any_eq_true]
 constructor
 ·intro hm
  obtain ⟨j, hj, e⟩ := List.mem_iff_getElem.1 hm
  refine ⟨j, List.mem_range.2 (by omega), decide_eq_true ?_⟩
  rw [← hx j (by omega), hb j hj, e]; rfl
 ·rintro ⟨j, hj, e⟩
  have hj5 := List.mem_range.1 hj
  have e2 := of_decide_eq_true e
  rw [← hx j hj5, hb j (by omega)] at e2
  have : l.data.toList[j]'(by omega) = 63 := by
   apply UInt8.toNat_inj.1
   have : (63 : UInt8).toNat = 63 := rfl
   omega
  rw [← this]; exact List.getElem_mem _
set_option maxHeartbeats 1000000 in
set_option maxRecDepth 100000 in
theorem cg_.walk (a0 : ByteArray) (w : World) (h74 : a0.size = 74) (hv : Go.Proofs.YtpkhgapifnjbeaaDoor.TA.xd_.f a0 = some true) :
  Calls Tryd.prog 31 #[.string a0] w fun e w' => ∃ v0_ : Value, e = .returned (.tuple #[v0_, .int .i64 0]) ∧ Kd.R (Kd.int .i64) 3 w' w.heap.size (fun _ => True) v0_ (sq_ a0) ∧ Below w.heap.size w w' := by
 have hcv := fun (w : World) (s : ByteArray) => run_bytes_of_string (P := Tryd.prog) w 9 52 5 s Tryd.underlying9 Tryd.underlying52 Tryd.underlying5
 have i3 : (Tryd.prog.info? 3).map (fun i => (i.zero, i.size, i.bytes)) = some (some (.int .i64 0), 1, 8) := by kernel_rfl
 have I3 := Lib.hid i3
 clear i3
 have H74 := Lib.hid h74
 have s1 : a0.size ≤ 74 := by omega
 have s2 : 74 ≤ a0.size := by omega
 clear h74
 go_enter Tryd.func31, Tryd.ntmps31
 go_wp2_with (first | (go_at_call 46; refine (Go.Proofs.YtpkhgapifnjbeaaDoor.TA.xd_.calls a0 true _ hv).mono ?_; rintro e w1 ⟨rfl, hb⟩; have HB1 := Lib.hid hb; clear hb) | ((with_reducible refine hc_ (N := 12) rfl ?_); refine Kd.kk_ (Kd.int .i64) w.heap.size 3 rfl (N := 12) rfl 22 _ _ rfl 12 rfl rfl Tryd.underlying22 (.int .i64 0) 8 I3.out rfl (by decide) (by omega) 0 (ok := fun _ => True) (okp := fun _ => True) rfl (fun _ hk => hk) trivial (by omega) (by omega) HB1.out HB1.out.size ?_; intro v1 w2 ho1 hb1 hg1_ hnew_; clear hg1_ hnew_; have HO := Lib.hid (show Kd.R (Kd.int .i64) 3 w2 w.heap.size (fun _ => True) v1 (ye_ a0 0) from ho1); have HW := Lib.hid hb1; clear ho1 hb1; obtain ⟨gw, cw, eo, hgo, hgl⟩ : ∃ gw cw, v1 = .slice (some ⟨gw, 0, none⟩) 12 cw ∧ w.heap.size ≤ gw ∧ gw < w2.heap.size := (by obtain ⟨g, c, e, h1, h2, _⟩ := Kd.yf_ HO.out (show 0 < 12 by decide); exact ⟨g, c, e, h1, h2⟩); subst eo))
 go_loopw [15] (fun v wr => ∃ i : Nat, i ≤ 12 ∧ v = .int .i64 i ∧ Hid (Kd.R (Kd.int .i64) 3 wr w.heap.size (fun _ => True) (.slice (some ⟨gw, 0, none⟩) 12 cw) (ye_ a0 i)) ∧ Hid (Below w.heap.size w wr)) (fun v _ => 12 - (RowKit.intOf v).toNat)
 case atStart => exact ⟨0, by omega, rfl, HO, HW⟩
 case round =>
  clear HO HW hgl
  obtain ⟨i, hi, rfl, HO, HW⟩ := hrel
  obtain ⟨w3, rfl⟩ : ∃ x : World, x = wr := ⟨_, rfl⟩
  by_cases hlt : i < 12
  ·go_wp2
   rw [show min 5 (a0.size - (7 + i * 5)) = 5 from by omega]
   have HH := bytes_holds w3 ((a0.extract (7 + i * 5) a0.size).extract 0 5)
   have HX := fun j hj => xp_ a0 (7 + i * 5) j hj (by omega)
   have HL : ((a0.extract (7 + i * 5) a0.size).extract 0 5).size = 5 := by simp; omega
   generalize hll : (a0.extract (7 + i * 5) a0.size).extract 0 5 = l at *
   have HLL := Lib.hid hll
   clear hll
   generalize grownCap w3 5 0 5 = c
   have HC := Lib.hid (show ∀ j : Nat, j < 5 → ((w3.alloc (.cells (bytesRow l c) 5 ((bytesRow l c).size, (bytesRow l c).size + 1))).drew).cell? ⟨w3.heap.size, j, none⟩ = some (.int .u8 (ig_ a0 (7 + i * 5 + j))) from fun j hj => by
    have hs : j < (numsOf l).toArray.size := by rw [pg_]; omega
    have := (HH c j hs).1
    rw [Nat.zero_add] at this
    rw [this, getElem!_pos _ j hs, ← HX j hj]
    unfold ig_
    rw [List.getElem_toArray, List.getD_eq_getElem?_getD, List.getElem?_eq_getElem (by simpa using hs)]; rfl)
   have HX2 := Lib.hid HX
   have HLL5 := Lib.hid HL
   clear HH HX HL
   have HO4 : Hid (Kd.R (Kd.int .i64) 3 ((w3.alloc (.cells (bytesRow l c) 5 ((bytesRow l c).size, (bytesRow l c).size + 1))).drew) w.heap.size (fun _ => True) (.slice (some ⟨gw, 0, none⟩) 12 cw) (uh_ a0 i 0)) := Lib.hid (by rw [vn_ a0 i hlt]; exact Kd.db_ (Kd.ta_ HO.out _))
   have HB4 : Hid (Below w.heap.size w ((w3.alloc (.cells (bytesRow l c) 5 ((bytesRow l c).size, (bytesRow l c).size + 1))).drew)) := Lib.hid (ca_ (HW.out.alloc HW.out.size _))
   have hgl : gw < w3.heap.size := by
    obtain ⟨g, c, e, h1, h2, _⟩ := Kd.yf_ HO.out (by rw [qj_ a0 i hi]; decide)
    injection e with e _ _
    injection e with e
    injection e with e _ _
    rw [e]; exact h2
   have hwb : w.heap.size ≤ w3.heap.size := HW.out.size
   generalize (w3.alloc (.cells (bytesRow l c) 5 ((bytesRow l c).size, (bytesRow l c).size + 1))).drew = w4 at HC HO4 HB4 ⊢
   clear HO HW hcv
   generalize w3.heap.size = B at *
   go_loopw [27] (fun v wr => ∃ k : Nat, k ≤ 5 ∧ v = .int .i64 k ∧ Hid (Kd.R (Kd.int .i64) 3 wr w.heap.size (fun _ => True) (.slice (some ⟨gw, 0, none⟩) 12 cw) (uh_ a0 i k)) ∧ Hid (Below w.heap.size w wr) ∧ Hid (∀ j : Nat, j < 5 → wr.cell? ⟨B, j, none⟩ = some (.int .u8 (ig_ a0 (7 + i * 5 + j))))) (fun v _ => 5 - (RowKit.intOf v).toNat)
   case atStart => exact ⟨0, by omega, rfl, HO4, HB4, HC⟩
   case round =>
    clear HO4 HB4 HC
    obtain ⟨k, hk, rfl, HO, HB, HC⟩ := hrel
    obtain ⟨w5, rfl⟩ : ∃ x : World, x = wr := ⟨_, rfl⟩
    by_cases hk5 : k < 5
    ·have hc := HC.out k hk5
     have hb := pl_ a0 (7 + i * 5 + k)
     have hs := pq_ a0 i k hk
     obtain ⟨sr, sf⟩ := Kd.hf_ (0 : Int) HO.out (i : Int) (by omega) (by omega)
     rw [Int.toNat_natCast, rq_ a0 i k hlt] at sr
     rw [Int.toNat_natCast] at sf
     have HP := Kd.nh_ HO.out (i : Int) (symTo a0 i k * 2 + (ig_ a0 (7 + i * 5 + k) - 48) % 256)
     rw [Int.toNat_natCast, il_] at HP
     have HP1 := Lib.hid (show Kd.R (Kd.int .i64) 3 (w5.setCell ⟨gw, i, none⟩ (.int .i64 (symTo a0 i k * 2 + (ig_ a0 (7 + i * 5 + k) - 48) % 256))) w.heap.size (fun _ => True) (.slice (some ⟨gw, 0, none⟩) 12 cw) (uh_ a0 i (k + 1)) from HP)
     clear HP
     go_wp2
     go_roundw
     case rel => exact ⟨k + 1, by omega, by go_num, HP1, Lib.hid (HB.out.setCell (p := ⟨gw, i, none⟩) hgo _), Lib.hid (fun j hj => (World.cell?_setCell_other (h := show (⟨gw, i, none⟩ : Addr) ≠ ⟨B, j, none⟩ from fun q => by injection q with q _ _; omega) ..).trans (HC.out j hj))⟩
     case measure => simp [RowKit.intOf]; omega
    ·obtain rfl : k = 5 := by omega
     have hcon := con_l l a0 i HLL5.out HX2.out
     cases hq : hasQ a0 i
     ·rw [hq] at hcon
      have HCON := Lib.hid hcon
      have HS := Lib.hid (show uh_ a0 i 5 = ye_ a0 (i + 1) from by rw [← si_ a0 i hlt]; unfold uh_ symS; rw [hq]; rfl)
      clear hcon hq
      go_wp2_with (first | (go_at_call 48; refine (se_.calls l ⟨#[63]⟩ false _ HCON.out).mono ?_; rintro e w6 ⟨rfl, hb⟩; have HB6 := Lib.hid (pa_ HB.out hb); have HO6 := Lib.hid (Kd.vc_ HO.out hb); clear hb))
      go_roundw
      case rel => exact ⟨i + 1, by omega, by go_num, Lib.hid (by rw [← HS.out]; exact HO6.out), HB6⟩
      case measure => simp [RowKit.intOf]; omega
     ·rw [hq] at hcon
      have HCON := Lib.hid hcon
      have HS := Lib.hid (show (uh_ a0 i 5).set i (-1) = ye_ a0 (i + 1) from by rw [il_, ← si_ a0 i hlt]; unfold symS; rw [hq]; rfl)
      clear hcon hq
      go_wp2_with (first | (go_at_call 48; refine (se_.calls l ⟨#[63]⟩ true _ HCON.out).mono ?_; rintro e w6 ⟨rfl, hb⟩; have HB6 := Lib.hid (pa_ HB.out hb); have HO6 := Lib.hid (Kd.vc_ HO.out hb); clear hb; obtain ⟨sr, sf⟩ := Kd.hf_ (0 : Int) HO6.out (i : Int) (by omega) (by omega); rw [Int.toNat_natCast] at sr sf; have HP := Kd.nh_ HO6.out (i : Int) (-1); rw [Int.toNat_natCast, HS.out] at HP; have HP1 := Lib.hid HP; clear HP))
      go_roundw
      case rel => exact ⟨i + 1, by omega, by go_num, HP1, Lib.hid (HB6.out.setCell (p := ⟨gw, i, none⟩) hgo _)⟩
      case measure => simp [RowKit.intOf]; omega
  ·obtain rfl : i = 12 := by omega
   go_wp2
   go_ret2
   exact ⟨_, rfl, by rw [← qp_]; exact HO.out, HW.out⟩
def cg_.f (s : ByteArray) : Option (List Int × Int) := (Go.Proofs.YtpkhgapifnjbeaaDoor.TA.xd_.f s).bind fun v => if v = true then some (sq_ s, 0) else some ([], 7)
set_option maxHeartbeats 1000000 in
set_option maxRecDepth 100000 in
theorem cg_.calls (a0 : ByteArray) (r1 : List Int) (r2 : Int) (w : World) (h : cg_.f a0 = some (r1, r2)) :
  Calls Tryd.prog 31 #[.string a0] w fun e w' => ∃ v0_ : Value, e = .returned (.tuple #[v0_, .int .i64 r2]) ∧ Kd.R (Kd.int .i64) 3 w' w.heap.size (fun _ => True) v0_ r1 ∧ Below w.heap.size w w' := by
 unfold cg_.f at h
 cases hv : Go.Proofs.YtpkhgapifnjbeaaDoor.TA.xd_.f a0 with
 | none => rw [hv] at h; cases h
 | some v =>
  rw [hv] at h
  simp only [Option.bind_some] at h
  cases v with
  | true =>
   rw [if_pos rfl] at h
   obtain ⟨rfl, rfl⟩ := Prod.mk.inj (Option.some.inj h)
   have h74 : a0.size = 74 := by
    unfold Go.Proofs.YtpkhgapifnjbeaaDoor.TA.xd_.f at hv
    by_cases e : (a0.size : Int) = 74
    ·omega
    ·rw [if_neg e] at hv; cases hv
   exact cg_.walk a0 w h74 hv
  | false =>
   rw [if_neg (by simp)] at h
   obtain ⟨rfl, rfl⟩ := Prod.mk.inj (Option.some.inj h)
   clear h
   go_enter Tryd.func31, Tryd.ntmps31
   go_wp2_with (first | (go_at_call 46; refine (Go.Proofs.YtpkhgapifnjbeaaDoor.TA.xd_.calls a0 false _ hv).mono ?_; rintro e w1 ⟨rfl, hb⟩; have HB1 := Lib.hid hb; clear hb))
   go_ret2
   exact ⟨_, rfl, Kd.ue_ _ _ _ _ _, HB1.out⟩
end Go.Proofs.YtpkhgapifnjbeaaDoor.G
end
section
namespace Go.Proofs.YtpkhgapifnjbeaaDoor.G
set_option linter.unusedVariables false
set_option linter.unusedSimpArgs false
open Go.RowKit Go.Proofs.YtpkhgapifnjbeaaDoor.Rs Go.Proofs.YtpkhgapifnjbeaaDoorW.PrintWords Go.Proofs.YtpkhgapifnjbeaaDoorW.PrintLast Go.Proofs.YtpkhgapifnjbeaaDoorW.PrintMore
def hq_ : List UInt8 := [49, 49, 49, 49, 49, 49, 49]
def fr_ : List UInt8 := [48, 48, 48, 48, 48, 48, 48]
def bitB (x : Int) (j : Nat) : UInt8 := if (x.toNat / 2 ^ (4 - j)) % 2 = 1 then 49 else 48
def of_ (x : Int) (j : Nat) : List UInt8 := (List.range j).map (bitB x)
def bf_ (ws : List Int) (i : Nat) : List UInt8 := hq_ ++ (ws.take i).flatMap fun x => of_ x 5
def drawS (ws : List Int) : ByteArray := ⟨(bf_ ws ws.length ++ fr_).toArray⟩
abbrev IsB (B b : Nat) (l : List UInt8) (w : World) : Prop := Lib.IsBuilder 54 5 B b (Lib.byteCells l) w
theorem vk_ {B b : Nat} {l : List UInt8} {W W' : World} (h : IsB B b l W) (hb : Below W.heap.size W W') : IsB B b l W' := by
 have key : ∀ p, Lib.BuilderAt 54 5 B b p (Lib.byteCells l) W → Lib.BuilderAt 54 5 B b p (Lib.byteCells l) W' := by
  rintro p ⟨hB, v, hbk, hown, hne⟩
  have hlt : b < W.heap.size := Lib.BuilderAt.lt ⟨hB, v, hbk, hown, hne⟩
  exact ⟨hB, v, (hb.block b hlt).trans hbk, tm_ hown (fun k hk => hb.block k (ap_ hown k hk)), hne⟩
 rcases h with h | h
 ·exact .inl (key _ h)
 ·exact .inr (key _ h)
theorem nk_ (l m : List UInt8) : Lib.byteCells l ++ Lib.byteCells m = Lib.byteCells (l ++ m) := by simp [Lib.byteCells]
theorem rep7 (ch : UInt8) (w : World) : Calls Tryd.prog 27 #[.string ⟨#[ch]⟩, .int .i64 7] w fun e w' => e = .returned (.string ⟨(List.replicate 7 ch).toArray⟩) ∧ Below w.heap.size w w' := by
 have := Any.strings_Repeat Tryd.laysX Tryd.laysX_extra ⟨#[ch]⟩ 7 w (by decide) (by show 1 * 7 ≤ _; decide)
 exact this
theorem wrS (B b n : Nat) (l m : List UInt8) (s : ByteArray) (hs : s = ⟨m.toArray⟩) (hn : m.length = n) (w : World) (h : IsB B b l w) (hl : l.length + m.length ≤ 100000) (hB : B ≤ w.heap.size) :
  Calls Tryd.prog 26 #[.pointer (some ⟨b, 0, none⟩), .string s] w fun e w' => e = .returned (.tuple #[.int .i64 n, .nilIface]) ∧ IsB B b (l ++ m) w' ∧ Below B w w' := by
 subst hs hn
 have hz : (⟨m.toArray⟩ : ByteArray).size = m.length := by simp [ByteArray.size]
 refine (Any.Builder_WriteString Tryd.laysX166 Tryd.laysX_extra B b (Lib.byteCells l) ⟨m.toArray⟩ w h (by rw [hz]; simp [Lib.byteCells]; omega) hB).mono ?_
 rintro e w' ⟨rfl, h2, h3⟩
 refine ⟨by rw [hz], .inr ?_, h3⟩
 rw [Lib.strCells_eq, nk_] at h2
 exact h2
theorem wrB (B b : Nat) (l : List UInt8) (c : UInt8) (x : Int) (hx : x = (c.toNat : Int)) (w : World) (h : IsB B b l w) (hl : l.length ≤ 100000) (hB : B ≤ w.heap.size) :
  Calls Tryd.prog 28 #[.pointer (some ⟨b, 0, none⟩), .int .u8 x] w fun e w' => e = .returned .nilIface ∧ IsB B b (l ++ [c]) w' ∧ Below B w w' := by
 subst hx
 refine (Any.Builder_WriteByte Tryd.laysX167 Tryd.laysX_extra B b (Lib.byteCells l) c.toNat w h (by simp [Lib.byteCells]; omega) hB).mono ?_
 rintro e w' ⟨rfl, h2, h3⟩
 exact ⟨rfl, .inr (by rw [← nk_]; exact h2), h3⟩
theorem strF (B b : Nat) (l : List UInt8) (w : World) (h : IsB B b l w) (hB : B ≤ w.heap.size) :
  Calls Tryd.prog 29 #[.pointer (some ⟨b, 0, none⟩)] w fun e w' => e = .returned (.string ⟨l.toArray⟩) ∧ Below B w w' :=
 Any.Builder_String_any Tryd.laysX169 Tryd.laysX_extra B b l w h hB
theorem qr_ : ∀ x : Fin 32, ∀ j : Fin 5, (48 + Go.bits .and .i64 ((x.1 : Int) / 2 ^ (4 - j.1)) 1) % 256 = ((bitB (x.1 : Int) j.1).toNat : Int) := by decide +kernel
theorem bit_at {x : Int} {j : Nat} (h0 : 0 ≤ x) (h1 : x < 32) (hj : j < 5) : (48 + Go.bits .and .i64 (x / 2 ^ (4 - j)) 1) % 256 = ((bitB x j).toNat : Int) := by
 obtain ⟨n, rfl⟩ := Int.eq_ofNat_of_zero_le h0
 exact qr_ ⟨n, by omega⟩ ⟨j, hj⟩
theorem tl_ (ws : List Int) : bf_ ws 0 = hq_ := by simp [bf_]
theorem hj_ (ws : List Int) (i : Nat) (hi : i ≤ ws.length) (h : ws.length ≤ 100) : (bf_ ws i).length ≤ 600 := by
 have : ∀ l : List Int, (l.flatMap fun x => of_ x 5).length = 5 * l.length := by
  intro l
  induction l with
  | nil => rfl
  | cons a l ih => rw [List.flatMap_cons, List.length_append, ih]; simp [of_]; omega
 unfold bf_
 rw [List.length_append, this, List.length_take]
 have : hq_.length = 7 := rfl
 omega
theorem sl_ (ws : List Int) (i : Nat) (hi : i < ws.length) : bf_ ws i ++ of_ (rd ws (i : Int)) 5 = bf_ ws (i + 1) := by
 unfold bf_
 rw [List.take_succ_eq_append_getElem hi, List.flatMap_append, List.append_assoc, cp_, List.getD_eq_getElem?_getD, List.getElem?_eq_getElem hi]
 simp
theorem cm_ (x : Int) (j : Nat) : of_ x j ++ [bitB x j] = of_ x (j + 1) := by
 unfold of_; rw [List.range_succ, List.map_append]; rfl
theorem jn_ (x : Int) (j : Nat) : (of_ x j).length = j := by simp [of_]
set_option maxHeartbeats 1000000 in
set_option maxRecDepth 100000 in
theorem df_.walk (a b c d : Int) (w : World) (ds cw : List Int) (hs : Go.Proofs.YtpkhgapifnjbeaaDoor.TA.kd_.f a b c d = some (ds, 0)) (he : dn_.f ds = some (cw, 0)) (hel : zn_ cw = true) (hl : cw.length ≤ 100) :
  Calls Tryd.prog 18 #[.agg #[.int .i64 a, .int .i64 b, .int .i64 c, .int .i64 d]] w fun e w' => e = .returned (.tuple #[.string (drawS cw), .int .i64 0]) ∧ Below w.heap.size w w' := by
 have hcA := fun W => Go.Proofs.YtpkhgapifnjbeaaDoor.TA.kd_.calls a b c d ds 0 W hs
 go_enter Tryd.func18, Tryd.ntmps18
 have HBW := Lib.hid (show Below w.heap.size w (w.alloc (.cells #[.int .i64 a, .int .i64 b, .int .i64 c, .int .i64 d] 26)) from (Below.refl _ _).alloc (Nat.le_refl _) _)
 go_wp2_with (first | (go_at_call 6; refine (hcA _).mono ?_; rintro e w1 ⟨v1, rfl, ho, hb⟩; have HB1 := Lib.hid (pa_ HBW.out hb); have HO1 := Lib.hid ho; clear ho hb; obtain ⟨A1, c1, e1⟩ := Kd.nc_ HO1.out; subst e1) | (go_at_call 25; refine (dn_.calls A1 c1 ds cw 0 _ (Kd.lb_ HO1.out).2.2 (Kd.lb_ HO1.out).2.1 he).mono ?_; rintro e w3 ⟨v2, rfl, ho, hb⟩; have HB3 := Lib.hid (pa_ HB1.out hb); have HO3 := Lib.hid ho; clear ho hb; obtain ⟨A2, c2, e2⟩ := Kd.nc_ HO3.out; subst e2; have hf := Lib.fresh_isBuilder 54 5 w3; have HF := Lib.hid (show IsB w3.heap.size w3.heap.size [] _ from hf); clear hf; have HBB := Lib.hid ((Below.refl w3.heap.size w3).alloc (Nat.le_refl _) (.cells #[.pointer none, .slice none 0 0] 54))) | fail)
 refine (rep7 49 _).mono ?_
 rintro e w4 ⟨rfl, hb⟩
 have HF4 := Lib.hid (vk_ HF.out hb)
 have HB4 := Lib.hid (HBB.out.trans (hb.mono HBB.out.size))
 clear hb HF HBB
 generalize hgb : w3.heap.size = B at HF4 HB4 ⊢
 have HGB := Lib.hid hgb
 clear hgb
 go_wp2_with fail
 refine (wrS B B 7 [] hq_ _ rfl rfl _ HF4.out (by decide) (Nat.le_trans (by rw [HGB.out]; exact Nat.le_refl _) HB4.out.size)).mono ?_
 rintro e w5 ⟨rfl, h5, hb5⟩
 have HF5 := Lib.hid (show IsB B B (bf_ cw 0) w5 from by rw [tl_]; exact h5)
 have HB5 := Lib.hid (HB4.out.trans hb5)
 clear h5 hb5 HF4 HB4
 have HC3 := Lib.hid (Kd.lb_ HO3.out).2.2
 go_wp2_with fail
 go_loopw [29] (fun v wr => ∃ i : Nat, i ≤ cw.length ∧ v = .int .i64 i ∧ Hid (IsB B B (bf_ cw i) wr) ∧ Hid (Below B w3 wr)) (fun v _ => cw.length - (RowKit.intOf v).toNat)
 case atStart => exact ⟨0, by omega, rfl, HF5, HB5⟩
 case round =>
  clear HF5 HB5
  obtain ⟨i, hi, rfl, HF, HB⟩ := hrel
  obtain ⟨w6, rfl⟩ : ∃ x : World, x = wr := ⟨_, rfl⟩
  by_cases hlt : i < cw.length
  ·have hC := Kd.rd_ HC3.out (show Below w3.heap.size w3 w6 from by rw [HGB.out]; exact HB.out)
   obtain ⟨ad, e1, hx⟩ := Kd.id_ hC (i : Int) (by omega) (by omega)
   subst e1
   rw [Int.toNat_natCast] at hx
   have hxe := (yj_ _).1 (sp_ hel i hlt)
   rw [← cp_] at hxe
   obtain ⟨hx0, hx1⟩ := hxe
   have HSC := Lib.hid (sl_ cw i hlt)
   have HLN := Lib.hid (hj_ cw i hi hl)
   clear hC
   generalize hxx : rd cw (i : Int) = x at *
   have HXX := Lib.hid hxx
   clear hxx
   go_wp2_with fail
   go_loopw [33] (fun v wr => ∃ j : Nat, j ≤ 5 ∧ v = .int .i64 j ∧ Hid (IsB B B (bf_ cw i ++ of_ x j) wr) ∧ Hid (Below B w3 wr)) (fun v _ => 5 - (RowKit.intOf v).toNat)
   case atStart => exact ⟨0, by omega, rfl, Lib.hid (by simpa [of_] using HF.out), HB⟩
   case round =>
    clear HF HB hx
    obtain ⟨j, hj, rfl, HF, HB⟩ := hrel
    obtain ⟨w7, rfl⟩ : ∃ x : World, x = wr := ⟨_, rfl⟩
    by_cases hj5 : j < 5
    ·have HBT := Lib.hid (bit_at hx0 hx1 hj5)
     go_wp2_with fail
     refine (wrB B B (bf_ cw i ++ of_ x j) (bitB x j) _ HBT.out _ HF.out (by rw [List.length_append, jn_]; have := HLN.out; omega) (by have := HB.out.size; rw [HGB.out] at this; exact this)).mono ?_
     rintro e w8 ⟨rfl, h8, hb8⟩
     have HF8 := Lib.hid (show IsB B B (bf_ cw i ++ of_ x (j + 1)) w8 from by rw [← cm_, ← List.append_assoc]; exact h8)
     have HB8 := Lib.hid (HB.out.trans hb8)
     clear h8 hb8 HF HB HBT
     go_wp2_with fail
     go_roundw
     case rel => exact ⟨j + 1, by omega, by go_num, HF8, HB8⟩
     case measure => simp [RowKit.intOf]; omega
    ·obtain rfl : j = 5 := by omega
     go_wp2_with fail
     go_roundw
     case rel => exact ⟨i + 1, by omega, by go_num, Lib.hid (by rw [← HSC.out]; exact HF.out), HB⟩
     case measure => simp [RowKit.intOf]; omega
  ·obtain rfl : i = cw.length := by omega
   have HLN := Lib.hid (hj_ cw cw.length hi hl)
   go_wp2_with fail
   refine (rep7 48 _).mono ?_
   rintro e w7 ⟨rfl, hb⟩
   have HF7 := Lib.hid (vk_ HF.out hb)
   have HB7 := Lib.hid (HB.out.trans (hb.mono (by have := HB.out.size; rw [HGB.out] at this; exact this)))
   clear hb HF HB
   go_wp2_with fail
   refine (wrS B B 7 (bf_ cw cw.length) fr_ _ rfl rfl _ HF7.out (by have := HLN.out; show _ + 7 ≤ _; omega) (by have := HB7.out.size; rw [HGB.out] at this; exact this)).mono ?_
   rintro e w8 ⟨rfl, h8, hb8⟩
   have HF8 := Lib.hid h8
   have HB8 := Lib.hid (HB7.out.trans hb8)
   clear h8 hb8 HF7 HB7
   go_wp2_with fail
   refine (strF B B _ _ HF8.out (by have := HB8.out.size; rw [HGB.out] at this; exact this)).mono ?_
   rintro e w9 ⟨rfl, hb9⟩
   have HB9 := Lib.hid (HB8.out.trans hb9)
   clear hb9 HF8 HB8
   go_wp2_with fail
   go_ret2
   exact ⟨rfl, HB3.out.trans (HB9.out.mono (by rw [← HGB.out]; exact HB3.out.size))⟩
def df_.f (a b c d : Int) : Option (ByteArray × Int) := (Go.Proofs.YtpkhgapifnjbeaaDoor.TA.kd_.f a b c d).bind fun p => if p.2 = 0 then (dn_.f p.1).bind fun q => (if q.2 = 0 ∧ zn_ q.1 = true ∧ q.1.length ≤ 100 then some (drawS q.1, 0) else none) else some (⟨#[]⟩, p.2)
set_option maxHeartbeats 1000000 in
set_option maxRecDepth 100000 in
theorem df_.calls (a b c d : Int) (r1 : ByteArray) (r2 : Int) (w : World) (h : df_.f a b c d = some (r1, r2)) :
  Calls Tryd.prog 18 #[.agg #[.int .i64 a, .int .i64 b, .int .i64 c, .int .i64 d]] w fun e w' => e = .returned (.tuple #[.string r1, .int .i64 r2]) ∧ Below w.heap.size w w' := by
 unfold df_.f at h
 cases hs : Go.Proofs.YtpkhgapifnjbeaaDoor.TA.kd_.f a b c d with
 | none => rw [hs] at h; cases h
 | some p =>
  obtain ⟨ds, e⟩ := p
  rw [hs] at h
  simp only [Option.bind_some] at h
  by_cases h0 : e = 0
  ·subst h0
   rw [if_pos rfl] at h
   cases he : dn_.f ds with
   | none => rw [he] at h; cases h
   | some q =>
    obtain ⟨cw, e2⟩ := q
    rw [he] at h
    simp only [Option.bind_some] at h
    by_cases hq : e2 = 0 ∧ zn_ cw = true ∧ cw.length ≤ 100
    ·rw [if_pos hq] at h
     obtain ⟨rfl, rfl⟩ := Prod.mk.inj (Option.some.inj h)
     obtain ⟨rfl, h1, h2⟩ := hq
     exact df_.walk a b c d w ds cw hs he h1 h2
    ·rw [if_neg hq] at h; cases h
  ·rw [if_neg h0] at h
   obtain ⟨rfl, rfl⟩ := Prod.mk.inj (Option.some.inj h)
   clear h
   have hcA := fun W => Go.Proofs.YtpkhgapifnjbeaaDoor.TA.kd_.calls a b c d ds e W hs
   have hb1 : (e != 0) = true := bne_iff_ne.2 h0
   have hb2 : (e == 0) = false := beq_eq_false_iff_ne.2 h0
   clear h0
   have HBW := Lib.hid (show Below w.heap.size w (w.alloc (.cells #[.int .i64 a, .int .i64 b, .int .i64 c, .int .i64 d] 26)) from (Below.refl _ _).alloc (Nat.le_refl _) _)
   go_enter Tryd.func18, Tryd.ntmps18
   go_wp2_with (first | (go_at_call 6; refine (hcA _).mono ?_; rintro e w1 ⟨v1, rfl, ho, hb⟩; have HB1 := Lib.hid (pa_ HBW.out hb); clear ho hb))
   go_ret2
   exact ⟨rfl, HB1.out⟩
end Go.Proofs.YtpkhgapifnjbeaaDoor.G
end
section
namespace Go.Proofs.YtpkhgapifnjbeaaDoor.G
set_option linter.unusedVariables false
open Go.RowKit Go.Proofs.YtpkhgapifnjbeaaDoorW.PrintWords
def xc_.f (a b c d : Int) : Option Bool := Go.Proofs.YtpkhgapifnjbeaaDoor.TA.wd_.f a b c d
theorem xc_.calls (a b c d : Int) (r : Bool) (w : World) (h : xc_.f a b c d = some r) :
  Calls Tryd.prog 9 #[.agg #[.int .i64 a, .int .i64 b, .int .i64 c, .int .i64 d]] w fun e w' => e = .returned (.bool r) ∧ Below w.heap.size w w' := Go.Proofs.YtpkhgapifnjbeaaDoor.TA.wd_.calls a b c d r w h
def ud_.f (a b c d : Int) : Option (List Int × Int) := Go.Proofs.YtpkhgapifnjbeaaDoor.TA.kd_.f a b c d
theorem ud_.calls (a b c d : Int) (r1 : List Int) (r2 : Int) (w : World) (h : ud_.f a b c d = some (r1, r2)) :
  Calls Tryd.prog 6 #[.agg #[.int .i64 a, .int .i64 b, .int .i64 c, .int .i64 d]] w fun e w' => ∃ v0_ : Value, e = .returned (.tuple #[v0_, .int .i64 r2]) ∧ Kd.R (Kd.int .i64) 3 w' w.heap.size (fun _ => True) v0_ r1 ∧ Below w.heap.size w w' := Go.Proofs.YtpkhgapifnjbeaaDoor.TA.kd_.calls a b c d r1 r2 w h
def dg_.f (s : ByteArray) : Option Bool := Go.Proofs.YtpkhgapifnjbeaaDoor.TA.xd_.f s
theorem dg_.calls (s : ByteArray) (r : Bool) (w : World) (h : dg_.f s = some r) :
  Calls Tryd.prog 46 #[.string s] w fun e w' => e = .returned (.bool r) ∧ Below w.heap.size w w' := Go.Proofs.YtpkhgapifnjbeaaDoor.TA.xd_.calls s r w h
def sd_.f (s : ByteArray) : Option Bool := Go.Proofs.YtpkhgapifnjbeaaDoor.TA.ff_.f s
theorem sd_.calls (s : ByteArray) (r : Bool) (w : World) (h : sd_.f s = some r) :
  Calls Tryd.prog 47 #[.string s] w fun e w' => e = .returned (.bool r) ∧ Below w.heap.size w w' := Go.Proofs.YtpkhgapifnjbeaaDoor.TA.ff_.calls s r w h
end Go.Proofs.YtpkhgapifnjbeaaDoor.G
end
