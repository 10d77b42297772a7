/- A part of the proofs of this seat's statements (texts put together by pack2.py of this claim's repo). -/
import Derived.Test.YtpkhgapifnjbeaaGreatDoorRows
import Derived.Lay
import Derived.LaidOnce
import Derived.SevenTiedAt
import Derived.Test.YtpkhgapifnjbeaaGreatDoorTie
import Derived.Test.YtpkhgapifnjbeaaGreatDoorCards
import Derived.WalkKit
import Derived.ProofKit
import Derived.OpenShut
import Derived.ShutString
import Derived.ChangeOld
import Derived.Below
import Derived.SizedLaws
import Derived.Test.YtpkhgapifnjbeaaGreatDoorYb0
set_option linter.unusedVariables false
set_option linter.unusedSimpArgs false
section
namespace Go.Proofs.YtpkhgapifnjbeaaGreatDoor.T
open RowKit G Rs Zw.PrintWords Zw.PrintLast Zw.PrintMore
attribute [local go_sem] id_ kd_ vd_ wd_ bd_ cd_ jd_ ld_
def ib_.j0 : Nat → ByteArray → Bool → Option (ByteArray × Int)
 | 0, _, _ => none
 | k + 1, x0, x16 => if x16 = true then (some (x0, 0)) else (if 0 ≤ 7 then (if 7 ≤ (x0.size : Int) then ((la_.f k (x0.extract 0 7) 48).bind fun t260 => (if t260 ≥ 4 then (if 67 ≤ (x0.size : Int) then ((la_.f k (x0.extract 67 x0.size) 49).bind fun t261 => (if t261 ≥ 4 then ((jb_.f k x0).bind fun t262 => (some (t262, 0))) else (some ((⟨#[]⟩ : ByteArray), 26)))) else (none)) else (some ((⟨#[]⟩ : ByteArray), 26)))) else (none)) else (none))
def ib_.f (k : Nat) (a0 : ByteArray) : Option (ByteArray × Int) := (gb_.f k a0).bind fun t257 => (if t257 = true then (if 0 ≤ 7 then (if 7 ≤ (a0.size : Int) then ((la_.f k (a0.extract 0 7) 49).bind fun t258 => (if t258 ≥ 4 then (if 67 ≤ (a0.size : Int) then ((la_.f k (a0.extract 67 a0.size) 48).bind fun t259 => (ib_.j0 k a0 (decide (t259 ≥ 4)))) else (none)) else (ib_.j0 k a0 false))) else (none)) else (none)) else (some ((⟨#[]⟩ : ByteArray), 7)))
theorem ib_.yc_ : ∀ k, (∀ y0 y1, LeO (ib_.j0 k y0 y1) (ib_.j0 (k + 1) y0 y1))
 | 0 => fun _ _ r h => by simp [ib_.j0] at h
 | k + 1 => by
  have ih0 := ib_.yc_ k
  intro y0 y1
  unfold ib_.j0
  repeat' first
  | (with_reducible exact ih0 _ _)
  | (with_reducible exact jb_.mono _ _)
  | (with_reducible exact la_.mono _ _ _)
  | (with_reducible exact gb_.mono _ _)
  | (with_reducible first | exact LeO.refl _ | exact LeO.none _ | refine LeO.ite ?_ ?_ | refine LeO.bind ?_ (fun _ => ?_))
  | exact ih0 _ _
  | exact jb_.mono _ _
  | exact la_.mono _ _ _
  | exact gb_.mono _ _
  | exact LeO.none _
  | refine LeO.ite ?_ ?_
  | refine LeO.bind ?_ (fun _ => ?_)
theorem ib_.mono : ∀ a0 k, LeO (ib_.f k a0) (ib_.f (k + 1) a0) := by
 intro a0 k
 have ih0 := ib_.yc_ k
 unfold ib_.f
 repeat' first
   | (with_reducible exact ih0 _ _)
   | (with_reducible exact jb_.mono _ _)
   | (with_reducible exact la_.mono _ _ _)
   | (with_reducible exact gb_.mono _ _)
   | (with_reducible first | exact LeO.refl _ | exact LeO.none _ | refine LeO.ite ?_ ?_ | refine LeO.bind ?_ (fun _ => ?_))
   | exact ih0 _ _
   | exact jb_.mono _ _
   | exact la_.mono _ _ _
   | exact gb_.mono _ _
   | exact LeO.none _
   | refine LeO.ite ?_ ?_
   | refine LeO.bind ?_ (fun _ => ?_)
set_option maxHeartbeats 8000000 in
set_option maxRecDepth 100000 in
theorem ib_.calls (k : Nat) (a0 : ByteArray) (r1 : ByteArray) (r2 : Int) (w : World) (h : ib_.f k a0 = some (r1, r2)) :
  Calls Tryz.prog 26 #[.string a0] w fun e w' => e = .returned (.tuple #[.string r1, .int .i64 r2]) ∧ Below w.heap.size w w' := by
 have HB := ba_.mk (Below.refl w.heap.size w)
 have H : ((gb_.f k a0).bind fun t257 => (if t257 = true then (if 0 ≤ 7 then (if 7 ≤ (a0.size : Int) then ((la_.f k (a0.extract 0 7) 49).bind fun t258 => (if t258 ≥ 4 then (if 67 ≤ (a0.size : Int) then ((la_.f k (a0.extract 67 a0.size) 48).bind fun t259 => (ib_.j0 k a0 (decide (t259 ≥ 4)))) else (none)) else (ib_.j0 k a0 false))) else (none)) else (none)) else (some ((⟨#[]⟩ : ByteArray), 7)))) = some (r1, r2) := h
 clear h
 obtain ⟨t257, A2, H⟩ := Qi H
 try dsimp only at H
 by_cases c3 : t257 = true
 rotate_left
 ·replace c3 := Bool.eq_false_iff.mpr c3
  subst c3
  have H1 : (some ((⟨#[]⟩ : ByteArray), 7)) = some (r1, r2) := by rw [if_neg (show ¬ (false = true) by decide)] at H; exact H
  clear H
  have H := H1
  clear H1
  simp only [Option.some.injEq, Prod.mk.injEq] at H
  obtain ⟨rfl, rfl⟩ := H
  go_enter Tryz.func26, Tryz.ntmps26
  go_wp2_with (first | ((with_reducible refine ia_ (f := 57) rfl ?_); refine gc_ (some 5) rfl rfl Tryz.func57 Qb rfl #[.string a0] rfl Qf ?_; (with_reducible refine (gb_.calls k a0 false _ A2.out).mono ?_); rintro e w' ⟨rfl, ⟨nd, rfl⟩⟩; refine ⟨_, rfl, ?_⟩))
  go_ret2
  exact ⟨Qp, Qc⟩
 subst c3
 have H1 : (if 0 ≤ 7 then (if 7 ≤ (a0.size : Int) then ((la_.f k (a0.extract 0 7) 49).bind fun t258 => (if t258 ≥ 4 then (if 67 ≤ (a0.size : Int) then ((la_.f k (a0.extract 67 a0.size) 48).bind fun t259 => (ib_.j0 k a0 (decide (t259 ≥ 4)))) else (none)) else (ib_.j0 k a0 false))) else (none)) else (none)) = some (r1, r2) := by rw [if_pos rfl] at H; exact H
 clear H
 have H := H1
 clear H1
 have HC4 := ba_.mk H
 clear H
 go_enter Tryz.func26, Tryz.ntmps26
 go_upto_region 3 with (first | ((with_reducible refine ia_ (f := 57) rfl ?_); refine gc_ (some 5) rfl rfl Tryz.func57 Qb rfl #[.string a0] rfl Qf ?_; (with_reducible refine (gb_.calls k a0 true _ A2.out).mono ?_); rintro e w' ⟨rfl, ⟨nd, rfl⟩⟩; refine ⟨_, rfl, ?_⟩))
 (try simp only [Act.put, List.setIfInBounds_toArray, List.set_cons_zero, List.set_cons_succ])
 go_cut [16] (fun v16 wc => ∃ (kq : Nat) (x16_3 : Bool), v16 = .bool x16_3 ∧ ba_ (ib_.j0 kq a0 x16_3 = some (r1, r2)) ∧ ba_ (kq ≤ k) ∧ ba_ (Below w.heap.size w wc))
 case first =>
  have H := HC4.out
  clear HC4
  obtain ⟨c5, H⟩ := Ql H
  have c5b0 := eq_true c5
  have c5b1 := decide_eq_true c5
  clear c5
  obtain ⟨c6, H⟩ := Ql H
  have c6b0 := eq_true c6
  have c6b1 := decide_eq_true c6
  clear c6
  obtain ⟨t258, A7, H⟩ := Qi H
  try dsimp only at H
  by_cases c8 : t258 ≥ 4
  rotate_left
  ·rw [if_neg c8] at H
   have c8b0 : decide (4 ≤ t258) = false := decide_eq_false c8
   clear c8
   (first | rw [c8b0] | (simp only [yb_, ac_]; rw [c8b0]) | skip)
   have H' := ba_.mk H
   clear H
   go_wp2_with (first | ((with_reducible refine ia_ (f := 58) rfl ?_); refine gc_ (some 9) rfl rfl Tryz.func58 Qb rfl #[.string (a0.extract 0 7), .int .u8 49] rfl Qf ?_; (with_reducible refine (la_.calls k (a0.extract 0 7) 49 t258 _ A7.out).mono ?_); rintro e w' ⟨rfl, ⟨nd, rfl⟩⟩; refine ⟨_, rfl, ?_⟩))
   go_meet
   case rel => exact ⟨_, (false), Qk, H', ⟨Xh⟩, ⟨Qc⟩⟩
  rw [if_pos c8] at H
  have c8b0 : decide (4 ≤ t258) = true := decide_eq_true c8
  clear c8
  (first | rw [c8b0] | (simp only [yb_, ac_]; rw [c8b0]) | skip)
  obtain ⟨c9, H⟩ := Ql H
  have c9b0 := eq_true c9
  have c9b1 := decide_eq_true c9
  clear c9
  obtain ⟨t259, A10, H⟩ := Qi H
  try dsimp only at H
  have H' := ba_.mk H
  clear H
  go_wp2_with (first | ((with_reducible refine ia_ (f := 58) rfl ?_); refine gc_ (some 9) rfl rfl Tryz.func58 Qb rfl #[.string (a0.extract 0 7), .int .u8 49] rfl Qf ?_; (with_reducible refine (la_.calls k (a0.extract 0 7) 49 t258 _ A7.out).mono ?_); rintro e w' ⟨rfl, ⟨nd, rfl⟩⟩; refine ⟨_, rfl, ?_⟩) | (go_at_call 58; (with_reducible refine (la_.calls k (a0.extract 67 a0.size) 48 t259 _ A10.out).mono ?_); rintro e w' ⟨rfl, ⟨nd, rfl⟩⟩))
  go_meet
  case rel => exact ⟨_, (decide (t259 ≥ 4)), Qk, H', ⟨Xh⟩, ⟨Qc⟩⟩
 case rest =>
  clear HC4
  try clear c2
  try clear p2
  try clear c3
  try clear c5
  try clear c5b0
  try clear c5b1
  try clear c6
  try clear c6b0
  try clear c6b1
  try clear c8
  try clear c8b0
  try clear c9
  try clear c9b0
  try clear c9b1
  obtain ⟨kq, x16_3, rfl, HA, HJ3, HB⟩ := hcut
  cases kq with
  | zero => exact absurd HA.out (by simp [ib_.j0])
  | succ kj3 =>
   have H := HA.out
   clear HA
   simp only [ib_.j0] at H
   by_cases c11 : x16_3 = true
   ·subst c11
    have H1 : (some (a0, 0)) = some (r1, r2) := by rw [if_pos rfl] at H; exact H
    clear H
    have H := H1
    clear H1
    simp only [Option.some.injEq, Prod.mk.injEq] at H
    obtain ⟨rfl, rfl⟩ := H
    go_wp2
    go_ret2
    exact ⟨Qp, Qc⟩
   replace c11 := Bool.eq_false_iff.mpr c11
   subst c11
   have H1 : (if 0 ≤ 7 then (if 7 ≤ (a0.size : Int) then ((la_.f kj3 (a0.extract 0 7) 48).bind fun t260 => (if t260 ≥ 4 then (if 67 ≤ (a0.size : Int) then ((la_.f kj3 (a0.extract 67 a0.size) 49).bind fun t261 => (if t261 ≥ 4 then ((jb_.f kj3 a0).bind fun t262 => (some (t262, 0))) else (some ((⟨#[]⟩ : ByteArray), 26)))) else (none)) else (some ((⟨#[]⟩ : ByteArray), 26)))) else (none)) else (none)) = some (r1, r2) := by rw [if_neg (show ¬ (false = true) by decide)] at H; exact H
   clear H
   have H := H1
   clear H1
   obtain ⟨c12, H⟩ := Ql H
   have c12b0 := eq_true c12
   have c12b1 := decide_eq_true c12
   clear c12
   obtain ⟨c13, H⟩ := Ql H
   have c13b0 := eq_true c13
   have c13b1 := decide_eq_true c13
   clear c13
   obtain ⟨t260, A14, H⟩ := Qi H
   try dsimp only at H
   by_cases c15 : t260 ≥ 4
   rotate_left
   ·rw [if_neg c15] at H
    have c15b0 : decide (4 ≤ t260) = false := decide_eq_false c15
    clear c15
    simp only [Option.some.injEq, Prod.mk.injEq] at H
    obtain ⟨rfl, rfl⟩ := H
    go_wp2_with (first | ((with_reducible refine ia_ (f := 58) rfl ?_); refine gc_ (some 20) rfl rfl Tryz.func58 Qb rfl #[.string (a0.extract 0 7), .int .u8 48] rfl Qf ?_; (with_reducible refine (la_.calls kj3 (a0.extract 0 7) 48 t260 _ A14.out).mono ?_); rintro e w' ⟨rfl, ⟨nd, rfl⟩⟩; refine ⟨_, rfl, ?_⟩))
    go_ret2
    exact ⟨Qp, Qc⟩
   rw [if_pos c15] at H
   have c15b0 : decide (4 ≤ t260) = true := decide_eq_true c15
   clear c15
   obtain ⟨c16, H⟩ := Ql H
   have c16b0 := eq_true c16
   have c16b1 := decide_eq_true c16
   clear c16
   obtain ⟨t261, A17, H⟩ := Qi H
   try dsimp only at H
   by_cases c18 : t261 ≥ 4
   rotate_left
   ·rw [if_neg c18] at H
    have c18b0 : decide (4 ≤ t261) = false := decide_eq_false c18
    clear c18
    simp only [Option.some.injEq, Prod.mk.injEq] at H
    obtain ⟨rfl, rfl⟩ := H
    go_wp2_with (first | ((with_reducible refine ia_ (f := 58) rfl ?_); refine gc_ (some 20) rfl rfl Tryz.func58 Qb rfl #[.string (a0.extract 0 7), .int .u8 48] rfl Qf ?_; (with_reducible refine (la_.calls kj3 (a0.extract 0 7) 48 t260 _ A14.out).mono ?_); rintro e w' ⟨rfl, ⟨nd, rfl⟩⟩; refine ⟨_, rfl, ?_⟩) | (go_at_call 58; (with_reducible refine (la_.calls kj3 (a0.extract 67 a0.size) 49 t261 _ A17.out).mono ?_); rintro e w' ⟨rfl, ⟨nd, rfl⟩⟩))
    go_ret2
    exact ⟨Qp, Qc⟩
   rw [if_pos c18] at H
   have c18b0 : decide (4 ≤ t261) = true := decide_eq_true c18
   clear c18
   obtain ⟨t262, A19, H⟩ := Qi H
   try dsimp only at H
   simp only [Option.some.injEq, Prod.mk.injEq] at H
   obtain ⟨rfl, rfl⟩ := H
   go_wp2_with (first | ((with_reducible refine ia_ (f := 58) rfl ?_); refine gc_ (some 20) rfl rfl Tryz.func58 Qb rfl #[.string (a0.extract 0 7), .int .u8 48] rfl Qf ?_; (with_reducible refine (la_.calls kj3 (a0.extract 0 7) 48 t260 _ A14.out).mono ?_); rintro e w' ⟨rfl, ⟨nd, rfl⟩⟩; refine ⟨_, rfl, ?_⟩) | (go_at_call 58; (with_reducible refine (la_.calls kj3 (a0.extract 67 a0.size) 49 t261 _ A17.out).mono ?_); rintro e w' ⟨rfl, ⟨nd, rfl⟩⟩) | ((with_reducible refine ia_ (f := 21) rfl ?_); refine gc_ (some 29) rfl rfl Tryz.func21 Qb rfl #[.string a0] rfl Qf ?_; (with_reducible refine (jb_.calls kj3 a0 t262 _ A19.out).mono ?_); rintro e w20 ⟨rfl, hb⟩; refine ⟨_, rfl, ?_⟩; have n0_ := ba_.mk (wa_ Qc hb); clear HB; have HB := n0_; clear n0_; (try clear hb); (try clear hb2); (try clear hk); (try clear hi)))
   go_ret2
   exact ⟨Qp, Qc⟩
def qi1_.l0 : Nat → List ByteArray → Int → Option (Bool)
 | 0, _, _ => none
 | k + 1, x6, x7 => if x7 < 3 then (if 0 ≤ x7 then (if x7 < (x6.length : Int) then ((cf_.f (rdOf ByteArray.empty x6 x7)).bind fun bt275 => ((ib_.f k (rdOf ByteArray.empty x6 x7)).bind fun bt278 => (if bt275.1.toList = bt278.1.toList then (if bt275.2 = bt278.2 then (qi1_.l0 k x6 (wrap64 (x7 + 1))) else (some false)) else (some false)))) else (none)) else (none)) else ((pe_.f).bind fun t273 => (some t273))
def qi1_.f (k : Nat) (l0 : List Int) (a1 : ByteArray) : Option (Bool) := (se_.f l0).bind fun bt263 => ((na_.f k bt263.1 bt263.2 12).bind fun bt266 => ((qb_.f k bt263.1 bt266.2).bind fun bt268 => (qi1_.l0 k (([bt266.1, bt268.1, a1] : List ByteArray)) 0)))
theorem qi1_.yc_ : ∀ k, (∀ y0 y1, LeO (qi1_.l0 k y0 y1) (qi1_.l0 (k + 1) y0 y1))
 | 0 => fun _ _ r h => by simp [qi1_.l0] at h
 | k + 1 => by
  have ih0 := qi1_.yc_ k
  intro y0 y1
  unfold qi1_.l0
  repeat' first
  | (with_reducible exact ih0 _ _)
  | (with_reducible exact na_.mono _ _ _ _)
  | (with_reducible exact qb_.mono _ _ _)
  | (with_reducible exact ib_.mono _ _)
  | (with_reducible first | exact LeO.refl _ | exact LeO.none _ | refine LeO.ite ?_ ?_ | refine LeO.bind ?_ (fun _ => ?_))
  | exact ih0 _ _
  | exact na_.mono _ _ _ _
  | exact qb_.mono _ _ _
  | exact ib_.mono _ _
  | exact LeO.none _
  | refine LeO.ite ?_ ?_
  | refine LeO.bind ?_ (fun _ => ?_)
theorem qi1_.mono : ∀ a0 a1 k, LeO (qi1_.f k a0 a1) (qi1_.f (k + 1) a0 a1) := by
 intro a0 a1 k
 have ih0 := qi1_.yc_ k
 unfold qi1_.f
 repeat' first
   | (with_reducible exact ih0 _ _)
   | (with_reducible exact na_.mono _ _ _ _)
   | (with_reducible exact qb_.mono _ _ _)
   | (with_reducible exact ib_.mono _ _)
   | (with_reducible first | exact LeO.refl _ | exact LeO.none _ | refine LeO.ite ?_ ?_ | refine LeO.bind ?_ (fun _ => ?_))
   | exact ih0 _ _
   | exact na_.mono _ _ _ _
   | exact qb_.mono _ _ _
   | exact ib_.mono _ _
   | exact LeO.none _
   | refine LeO.ite ?_ ?_
   | refine LeO.bind ?_ (fun _ => ?_)
set_option maxHeartbeats 8000000 in
set_option maxRecDepth 100000 in
theorem qi1_.calls (k : Nat) (A0 : Option Addr) (c0 : Nat) (l0 : List Int) (a1 : ByteArray) (r : Bool) (w : World) (hr0 : Kd.C (Kd.int .i64) w A0 l0.length l0) (hc0 : l0.length ≤ c0) (h : qi1_.f k l0 a1 = some r) (hr_ : r = true) :
  Calls Tryz.prog 5 #[.slice A0 l0.length c0, .string a1] w fun e w' => e = .returned (.bool r) ∧ Below w.heap.size w w' := by
 have HRT := ba_.mk hr_
 clear hr_
 have HR0 := ba_.mk hr0
 have HC0 := ba_.mk hc0
 clear hr0 hc0
 have HB := ba_.mk (Below.refl w.heap.size w)
 have H : ((se_.f l0).bind fun bt263 => ((na_.f k bt263.1 bt263.2 12).bind fun bt266 => ((qb_.f k bt263.1 bt266.2).bind fun bt268 => (qi1_.l0 k (([bt266.1, bt268.1, a1] : List ByteArray)) 0)))) = some r := h
 clear h
 obtain ⟨⟨t263, t264⟩, A3, H⟩ := Qi H
 try dsimp only at H
 obtain ⟨⟨t266, t267⟩, A4, H⟩ := Qi H
 try dsimp only at H
 obtain ⟨⟨t268, t269⟩, A5, H⟩ := Qi H
 try dsimp only at H
 obtain ⟨y270, hy270⟩ : ∃ y_ : List ByteArray, y_ = (([t266, t268, a1] : List ByteArray)) := ⟨_, rfl⟩
 replace H : (qi1_.l0 k y270 0) = some r := by first | (rw [hy270]; with_reducible exact H) | (have H2_ := (Option.bind_some _ _).symm.trans H; rw [hy270]; with_reducible exact H2_) | (have H2_ := (Option.bind_some _ _).symm.trans H; with_reducible exact H2_) | with_reducible exact H | (rw [hy270]; exact H) | exact H
 have Ny270 := ba_.mk hy270
 clear hy270
 have H' := ba_.mk H
 clear H
 go_enter Tryz.func5, Tryz.ntmps5
 go_wp2_with (first | ((with_reducible refine ia_ (f := 8) rfl ?_); refine gc_ (some 13) rfl rfl Tryz.func8 Qb rfl #[.slice A0 l0.length c0] rfl Qf ?_; (with_reducible refine (se_.calls _ _ l0 t263 t264 w _ ?side1 ?side2 ?side3 A3.out).mono ?_); (case side1 => exact Qat); (case side2 => exact HR0.out); (case side3 => exact HC0.out); rintro e w6 ⟨g265, rfl, hi, hb, hb2⟩; refine ⟨_, rfl, ?_⟩; have n0_ := ba_.mk (hb); have n1_ := ba_.mk (hi); clear HB; have HB := n0_; have HI265 := n1_; clear n0_ n1_; (try clear hb); (try clear hb2); (try clear hk); (try clear hi)) | ((with_reducible refine ia_ (f := 23) rfl ?_); refine gc_ (some 15) rfl rfl Tryz.func23 Qb rfl #[.pointer (some ⟨g265, 0, none⟩), .int .i64 12] rfl Qf ?_; (with_reducible refine (na_.calls k g265 t263 t264 12 t266 t267 w _ ?side1 ?side2 A4.out).mono ?_); (case side1 => repeat (first | (with_reducible first | exact HI265.out | apply ya_.alloc | apply ya_.drewN | apply ya_.drew | apply ya_.je_) | exact HI265.out)); (case side2 => repeat (first | (with_reducible first | exact HB.out | apply da_ | apply aa_ | apply ca_ | refine sa_ ?_ (ya_.ge HI265.out)) | exact HB.out)); rintro e w7 ⟨rfl, hi, hb, hk⟩; refine ⟨_, rfl, ?_⟩; have n0_ := ba_.mk (hb); have n1_ := ba_.mk (hi); clear HB; clear HI265; have HB := n0_; have HI265 := n1_; clear n0_ n1_; (try clear hb); (try clear hb2); (try clear hk); (try clear hi)) | ((with_reducible refine ia_ (f := 24) rfl ?_); refine gc_ (some 17) rfl rfl Tryz.func24 Qb rfl #[.pointer (some ⟨g265, 0, none⟩)] rfl Qf ?_; (with_reducible refine (qb_.calls k g265 t263 t267 t268 t269 w _ ?side1 ?side2 A5.out).mono ?_); (case side1 => repeat (first | (with_reducible first | exact HI265.out | apply ya_.alloc | apply ya_.drewN | apply ya_.drew | apply ya_.je_) | exact HI265.out)); (case side2 => repeat (first | (with_reducible first | exact HB.out | apply da_ | apply aa_ | apply ca_ | refine sa_ ?_ (ya_.ge HI265.out)) | exact HB.out)); rintro e w8 ⟨rfl, hi, hb, hk⟩; refine ⟨_, rfl, ?_⟩; have n0_ := ba_.mk (hb); have n1_ := ba_.mk (hi); clear HB; clear HI265; have HB := n0_; have HI265 := n1_; clear n0_ n1_; (try clear hb); (try clear hb2); (try clear hk); (try clear hi)) | ((with_reducible refine md_ (N := 19) rfl ?_); refine Kd.sm_ Kd.string _ 9 ?hg (N := 19) ?hd (xs := ([t266, t268, a1] : List ByteArray)) (inner := [.string t266, .string t268, .string a1]) (ok := fun _ => True) (okp := fun _ => True) ?hr ?hp (fun _ hk => hk) trivial (Below.refl _ _) (Nat.le_refl _) Qs ?_; (case hd => rfl); (case hg => rfl); (case hr => exact Qu); (case hp => exact (Reps.one (show Kd.M Kd.string _ _ _ t266 [.string t266] from rfl) (Reps.one (show Kd.M Kd.string _ _ _ t268 [.string t268] from rfl) (Reps.one (show Kd.M Kd.string _ _ _ a1 [.string a1] from rfl) (Reps.none _ _))))); intro v271 w9 ho10 hb hg_ hnew_; clear hg_ hnew_; (first | rw [← Ny270.out] at ho10 | (simp only [Int.reduceToNat] at ho10; rw [← Ny270.out] at ho10)); have n0_ := ba_.mk (Kd.td_ ho10 (za_ (by repeat (first | (with_reducible first | exact HB.out | apply da_ | apply aa_ | apply ca_ | refine sa_ ?_ (ya_.ge HI265.out)) | exact HB.out)))); have n1_ := ba_.mk (ya_.below (by repeat (first | (with_reducible first | exact HI265.out | apply ya_.alloc | apply ya_.drewN | apply ya_.drew | apply ya_.je_) | exact HI265.out)) hb); have n2_ := ba_.mk (wa_ (by repeat (first | (with_reducible first | exact HB.out | apply da_ | apply aa_ | apply ca_ | refine sa_ ?_ (ya_.ge HI265.out)) | exact HB.out)) hb); clear HI265; clear HB; have HO272 := n0_; have HI265 := n1_; have HB := n2_; clear n0_ n1_ n2_; clear hb ho10))
 go_loopg [7] k (fun kq v7 w' => ∃ (x7_1 : Int), v7 = .int .i64 x7_1 ∧ ba_ (qi1_.l0 kq y270 x7_1 = some r) ∧ ba_ (kq ≤ k) ∧ ba_ (Kd.R Kd.string 9 w' w.heap.size (fun _ => True) v271 y270) ∧ ba_ (Below w.heap.size w w'))
 case atStart => exact ⟨(0), Qk, H', ⟨Nat.le_refl _⟩, ⟨by (with_reducible repeat (first | apply Kd.eb_ | apply Kd.fb_ | apply Kd.rb_)); exact HO272.out⟩, ⟨by repeat (first | (with_reducible first | exact HB.out | apply da_ | apply aa_ | apply ca_ | refine sa_ ?_ (ya_.ge HI265.out)) | exact HB.out)⟩⟩
 case round =>
  clear H'
  try clear c2
  try clear p2
  try clear c5
  try clear c8
  obtain ⟨x7_1, rfl, HA, HK1, HO_6, HB⟩ := hrel
  cases gk with
  | zero => exact absurd HA.out (by simp [qi1_.l0])
  | succ k1 =>
   have H := HA.out
   clear HA
   simp only [qi1_.l0] at H
   by_cases c11 : x7_1 < 3
   rotate_left
   ·rw [if_neg c11] at H
    have c11b0 := decide_eq_false c11
    clear c11
    obtain ⟨t273, A27, H⟩ := Qi H
    try dsimp only at H
    obtain rfl := Option.some.inj H
    go_wp2_with (first | ((with_reducible refine ia_ (f := 22) rfl ?_); refine gc_ (some 48) rfl rfl Tryz.func22 Qb rfl #[] rfl Qf ?_; (with_reducible refine (pe_.calls  t273 _ A27.out HRT.out).mono ?_); rintro e w28 ⟨rfl, hb⟩; refine ⟨_, rfl, ?_⟩; have n0_ := ba_.mk (Kd.ne_ (Qn HO_6.out) hb); have n1_ := ba_.mk (wa_ Qc hb); clear HO_6; clear HB; have HO_6 := n0_; have HB := n1_; clear n0_ n1_; (try clear hb); (try clear hb2); (try clear hk); (try clear hi)))
    go_ret
    exact ⟨Qp, Qc⟩
   rw [if_pos c11] at H
   have c11b0 := decide_eq_true c11
   clear c11
   obtain ⟨c12, H⟩ := Ql H
   have c12b0 := decide_eq_true c12
   clear c12
   obtain ⟨c13, H⟩ := Ql H
   have c13b0 := decide_eq_true c13
   clear c13
   obtain ⟨⟨t275, t276⟩, A14, H⟩ := Qi H
   try dsimp only at H
   obtain ⟨⟨t278, t279⟩, A15, H⟩ := Qi H
   try dsimp only at H
   by_cases c16 : t275.toList = t278.toList
   rotate_left
   ·rw [if_neg c16] at H
    have c16b0 : (t275.toList == t278.toList) = false := beq_eq_false_iff_ne.mpr c16
    have c16b1 : (t275.toList != t278.toList) = true := bne_iff_ne.mpr c16
    exact absurd ((Option.some.inj H).trans HRT.out) Qj
   rw [if_pos c16] at H
   have c16b0 : (t275.toList == t278.toList) = true := beq_iff_eq.mpr c16
   have c16b1 : (t275.toList != t278.toList) = false := bne_eq_false_iff_eq.mpr c16
   clear c16
   by_cases c17 : t276 = t279
   rotate_left
   ·rw [if_neg c17] at H
    have c17b0 : (t276 == t279) = false := beq_eq_false_iff_ne.mpr c17
    have c17b1 : (t276 != t279) = true := bne_iff_ne.mpr c17
    exact absurd ((Option.some.inj H).trans HRT.out) Qj
   rw [if_pos c17] at H
   have c17b0 : (t276 == t279) = true := beq_iff_eq.mpr c17
   have c17b1 : (t276 != t279) = false := bne_eq_false_iff_eq.mpr c17
   clear c17
   have H' := ba_.mk H
   clear H
   obtain ⟨Ao18, co18, eo18⟩ := Kd.pd_ HO_6.out
   subst eo18
   have p274 : 0 ≤ (x7_1 : Int) := of_decide_eq_true Qg
   have q274 : x7_1 < (y270.length : Int) := of_decide_eq_true Qg
   obtain ⟨ad274, e274, hx274_0⟩ := Kd.mk_ (Kd.cc_ HO_6.out).2.2 x7_1 p274 q274
   cases e274
   replace p274 := eq_true p274
   replace q274 := eq_true q274
   go_wp2_with (first | ((with_reducible refine ia_ (f := 25) rfl ?_); refine gc_ (some 29) rfl rfl Tryz.func25 Qb rfl #[.string (rdOf ByteArray.empty y270 x7_1)] rfl Qf ?_; (with_reducible refine (cf_.calls (rdOf ByteArray.empty y270 x7_1) t275 t276 _ A14.out).mono ?_); rintro e w19 ⟨rfl, hb⟩; refine ⟨_, rfl, ?_⟩; have n0_ := ba_.mk (Kd.ne_ (Qn HO_6.out) hb); have n1_ := ba_.mk (wa_ Qc hb); clear HO_6; clear HB; have HO_6 := n0_; have HB := n1_; clear n0_ n1_; (try clear hb); (try clear hb2); (try clear hk); (try clear hi); have p277 : 0 ≤ (x7_1 : Int) := of_decide_eq_true Qg; have q277 : x7_1 < (y270.length : Int) := of_decide_eq_true Qg; obtain ⟨ad277, e277, hx277_0⟩ := Kd.mk_ (Kd.cc_ HO_6.out).2.2 x7_1 p277 q277; obtain rfl : ad274 = ad277 := (by injection e277); replace p277 := eq_true p277; replace q277 := eq_true q277) | ((with_reducible refine ia_ (f := 26) rfl ?_); refine gc_ (some 37) rfl rfl Tryz.func26 Qb rfl #[.string (rdOf ByteArray.empty y270 x7_1)] rfl Qf ?_; (with_reducible refine (ib_.calls k1 (rdOf ByteArray.empty y270 x7_1) t278 t279 _ A15.out).mono ?_); rintro e w20 ⟨rfl, hb⟩; refine ⟨_, rfl, ?_⟩; have n0_ := ba_.mk (Kd.ne_ (Qn HO_6.out) hb); have n1_ := ba_.mk (wa_ Qc hb); clear HO_6; clear HB; have HO_6 := n0_; have HB := n1_; clear n0_ n1_; (try clear hb); (try clear hb2); (try clear hk); (try clear hi)))
   go_roundg k1
   case measure => have := HK1.out; omega
   case rel => exact ⟨(wrap64 (x7_1 + 1)), Qk, H', ⟨Q0⟩, ⟨Qan⟩, ⟨Qc⟩⟩
def qi1_.Pure : Prop := ∀ (l0 : List Int) (a1 : ByteArray), l0.length ≤ maxLen → l0.length * 8 ≤ 140737488351232 → (∀ x ∈ l0, (Lit.int .i64 x).wf = true) → a1.size ≤ 140737488351232 → ∃ k, qi1_.f k l0 a1 = some true
theorem qi1_.walk (P : qi1_.Pure) (a0 : Option Addr) (len0 cap0 : Nat) (z0 : List Int) (a1 : ByteArray) (w : World) (w0 : (a0 = none ∧ len0 = 0 ∧ cap0 = 0 ∧ z0 = []) ∨ ∃ x, a0 = some x ∧ len0 ≤ cap0 ∧ cap0 ≤ maxLen ∧ z0.length = cap0 ∧ (∀ i, i < z0.length → w.cell? (x.add i) = some (.int .i64 (z0.getD i 0))) ∧ ∀ n ∈ z0, (Lit.int .i64 n).wf = true) (y0 : len0 * 8 ≤ 140737488351232) (w1 : a1.size ≤ 140737488351232) :
  Calls Tryz.prog 5 #[.slice a0 len0 cap0, .string a1] w fun e w' => e = .returned (.bool true) ∧ Below w.heap.size w w' := by
 obtain ⟨l0, rfl, hr0, hm0, hw0, hc0⟩ := me_.ij1_ w0
 obtain ⟨k, h⟩ := P l0 a1 hm0 y0 hw0 w1
 refine (qi1_.calls k _ _ l0 a1 true w (Kd.wq_ (d := (0 : Int)) (h1 := fun _ => rfl) hr0) hc0 h rfl).mono ?_
 rintro e w' ⟨rfl, hd⟩
 exact ⟨rfl, hd⟩
end Go.Proofs.YtpkhgapifnjbeaaGreatDoor.T
end
section
namespace Go.Proofs.YtpkhgapifnjbeaaGreatDoor.Pure
open RowKit T Zw.PrintWords Zw.PrintLast Zw.PrintMore G Rs
theorem cf1_ (a b : Int) (h1 : 1 ≤ b) : (if Int.tmod a b < 0 then Int.tmod a b + b else Int.tmod a b) = a % b ∧ -b < Int.tmod a b := by
 have h := Int.emod_nonneg a (b := b) Qa
 have h' := Int.emod_lt_of_pos a (show 0 < b by omega)
 have e := @Int.tmod_eq_emod a b
 by_cases c : 0 ≤ a ∨ b ∣ a
 ·exact Qbm
 ·exact Qbn
theorem dj1_ (a b : Int) (h1 : 1 ≤ b) (h2 : b ≤ 1000000) : le_.f a b = some (a % b) := by
 obtain ⟨e, h⟩ := cf1_ a b h1
 unfold le_.f
 rw [if_neg Qa, if_neg Qa]
 by_cases c : Int.tmod a b < 0
 ·exact Qbo
 rw [if_neg c] at e
 rw [if_neg c, e]
def TA (p : Int) : Prop := 0 ≤ p ∧ p ≤ 600
theorem hj1_ (l : List Int) : ∃ L, se_.f l = some (L, 0) ∧ L.length ≤ 600 ∧ TA 0 := by
 unfold se_.f
 by_cases h : (l.length : Int) > 600
 ·exact Qbp
 ·exact Qbq
theorem jj1_ {L : List Int} (hL : L.length ≤ 600) {p : Int} (hp : TA p) : ∃ v q, de_.f L p = some (v, q) ∧ TA q := by
 unfold TA at hp
 unfold de_.f
 by_cases h : p ≥ (L.length : Int)
 ·rw [if_pos h]; exact ⟨_, _, rfl, hp⟩
 ·exact Qbr
theorem hm_ {L : List Int} (hL : L.length ≤ 600) {p : Int} (hp : TA p) (n : Int) (h1 : 1 ≤ n) (h2 : n ≤ 1000000) : ∃ v q, kb_.f L p n = some (v, q) ∧ 0 ≤ v ∧ v < n ∧ TA q := by
 obtain ⟨v, q, e, hq⟩ := jj1_ hL hp
 unfold kb_.f
 rw [e]
 simp only [Option.bind_some]
 rw [dj1_ v n h1 h2]
 exact ⟨_, _, rfl, Int.emod_nonneg _ Qa, Int.emod_lt_of_pos _ Qa, hq⟩
theorem us_ {L : List Int} (hL : L.length ≤ 600) {p : Int} (hp : TA p) (a b : Int) (h0 : -1000 ≤ a) (h1 : a ≤ b) (h2 : b ≤ 100000) : ∃ v q, wb_.f L p a b = some (v, q) ∧ a ≤ v ∧ v ≤ b ∧ TA q := by
 have e1 : wrap64 (wrap64 (b - a) + 1) = b - a + 1 := by unfold wrap64; omega
 obtain ⟨v, q, e, v0, v1, hq⟩ := hm_ hL hp (b - a + 1) Qa Qa
 unfold wb_.f
 rw [e1, e]
 simp only [Option.bind_some]
 have e2 : wrap64 (a + v) = a + v := by unfold wrap64; omega
 rw [e2]
 exact ⟨_, _, rfl, Qa, Qa, hq⟩
theorem bj1_ {L : List Int} (hL : L.length ≤ 600) {p : Int} (hp : TA p) (n : Int) (h1 : 1 ≤ n) (h2 : n ≤ 1000000) : ∃ v q, nd_.f L p n = some (v, q) ∧ TA q := by
 obtain ⟨v, q, e, _, _, hq⟩ := hm_ hL hp n h1 h2
 unfold nd_.f
 rw [e]
 exact ⟨_, _, rfl, hq⟩
theorem sf1_ {L : List Int} (hL : L.length ≤ 600) {p : Int} (hp : TA p) (l : List Int) (h1 : 1 ≤ l.length) (h2 : l.length ≤ 1000) : ∃ v q, zc_.f L p l = some (v, q) ∧ v ∈ l ∧ TA q := by
 obtain ⟨v, q, e, v0, v1, hq⟩ := hm_ hL hp (l.length : Int) Qa Qa
 unfold zc_.f
 rw [e]
 simp only [Option.bind_some]
 rw [if_pos v0, if_pos v1]
 refine ⟨_, _, rfl, ?_, hq⟩
 rw [tf1_ v0]
 exact zf_ Qa
theorem aj1_ {L : List Int} (hL : L.length ≤ 600) {p : Int} (hp : TA p) : ∃ v q, ud_.f L p = some (v, q) ∧ TA q := by
 obtain ⟨v, q, e, _, hq⟩ := sf1_ hL hp ([(-1), 0, 1, 2, 31, 32, 99, 100, 200, 201, 9999, 10000, 1000000, 1000001, 1152921504606846976, 1152921504606846977, (-1152921504606846976), 9223372036854775807, (-9223372036854775808)] : List Int) Qj Qj
 unfold ud_.f
 rw [e]
 exact ⟨_, _, rfl, hq⟩
theorem xs_ {L : List Int} (hL : L.length ≤ 600) {p : Int} (hp : TA p) (a m : Int) (hm : m ≤ 1000) : ∃ v q, lb_.f L p a m = some (v, q) ∧ TA q ∧ (m = 0 → v = a) := by
 unfold lb_.f
 by_cases h : m > 0
 ·exact Qbs
 ·exact Qbt
def okL (a b c d : Int) : Prop := (0 ≤ a ∧ a ≤ 31) ∧ (0 ≤ b ∧ b ≤ 9999) ∧ (0 ≤ c ∧ c ≤ 31) ∧ (0 ≤ d ∧ d ≤ 31)
theorem hh1_ {L : List Int} (hL : L.length ≤ 600) {p : Int} (hp : TA p) (m : Int) (hm : m ≤ 1000) : ∃ a b c d q, ce_.f L p m = some (a, b, c, d, q) ∧ TA q ∧ (m = 0 → okL a b c d) := by
 unfold ce_.f
 obtain ⟨v1, q1, e1, l1, u1, h1⟩ := us_ hL hp 0 31 Qa Qa Qa
 rw [e1]; simp only [Option.bind_some]
 obtain ⟨a, q2, e2, h2, i2⟩ := xs_ hL h1 v1 m hm
 rw [e2]; simp only [Option.bind_some]
 obtain ⟨v3, q3, e3, m3, h3⟩ := sf1_ hL h2 ([0, 1, 31, 32, 1023, 1024, 5000, 9998, 9999] : List Int) Qj Qj
 rw [e3]; simp only [Option.bind_some]
 obtain ⟨b, q4, e4, h4, i4⟩ := xs_ hL h3 v3 m hm
 rw [e4]; simp only [Option.bind_some]
 obtain ⟨v5, q5, e5, l5, u5, h5⟩ := us_ hL h4 0 31 Qa Qa Qa
 rw [e5]; simp only [Option.bind_some]
 obtain ⟨c, q6, e6, h6, i6⟩ := xs_ hL h5 v5 m hm
 rw [e6]; simp only [Option.bind_some]
 obtain ⟨v7, q7, e7, l7, u7, h7⟩ := us_ hL h6 0 31 Qa Qa Qa
 rw [e7]; simp only [Option.bind_some]
 obtain ⟨d, q8, e8, h8, i8⟩ := xs_ hL h7 v7 m hm
 rw [e8]; simp only [Option.bind_some]
 refine ⟨a, b, c, d, q8, rfl, h8, fun h => ?_⟩
 have k3 : 0 ≤ v3 ∧ v3 ≤ 9999 := by
  simp only [List.mem_cons, List.not_mem_nil, or_false] at m3
  omega
 rw [i2 h, i4 h, i6 h, i8 h]
 exact ⟨⟨l1, u1⟩, k3, ⟨l5, u5⟩, ⟨l7, u7⟩⟩
end Go.Proofs.YtpkhgapifnjbeaaGreatDoor.Pure
end
section
namespace Go.Proofs.YtpkhgapifnjbeaaGreatDoor.Pure
open RowKit T Zw.PrintWords Zw.PrintLast Zw.PrintMore G Rs
def chB (b : UInt8) : Bool := b == 48 || b == 49 || b == 63
def pf_ (s : ByteArray) : Bool := decide (s.size = 74) && s.data.toList.all chB
theorem re_ (s : ByteArray) : s.data.toList.length = s.size := rfl
theorem mv_ (s : ByteArray) (i : Nat) (h : i < s.data.toList.length) : Go.Proofs.Zw.PrintWords.bt s (i : Int) = ((s.data.toList[i]).toNat : Int) := by
 have h' : i < s.size := h
 have := Go.Proofs.Zw.PrintWords.ik_ s (i : Int) h'
 rw [← this]
 rfl
theorem cx_ (s : ByteArray) (i : Nat) (h : i < s.data.toList.length) (c : UInt8) : (Go.Proofs.Zw.PrintWords.bt s (i : Int) = (c.toNat : Int)) ↔ (s.data.toList[i] = c) := by
 rw [mv_ s i h]
 exact ⟨fun q => UInt8.toNat_inj.1 Qa, fun q => by rw [q]⟩
theorem xe1_ (s : ByteArray) (hs : s.size ≤ 100000) : ∀ (d i k : Nat), i + d = s.data.toList.length → d < k → gb_.l0 k s (i : Int) = some ((s.data.toList.drop i).all chB) := by
 intro d
 induction d with
 | zero =>
  intro i k hi hk
  obtain ⟨k, rfl⟩ : ∃ m, k = m + 1 := ⟨k - 1, Qa⟩
  have hi' : i = s.data.toList.length := by omega
  simp only [gb_.l0]
  rw [if_neg (by rw [hi', re_]; omega), hi', List.drop_length]; rfl
 | succ d ih =>
  intro i k hi hk
  obtain ⟨k, rfl⟩ : ∃ m, k = m + 1 := ⟨k - 1, Qa⟩
  have hl := re_ s
  have hlt : i < s.data.toList.length := by omega
  have e := ih (i + 1) k Qa Qa
  have b48 : (Go.Proofs.Zw.PrintWords.bt s (i : Int) = 48) ↔ _ := cx_ s i hlt 48
  have b49 : (Go.Proofs.Zw.PrintWords.bt s (i : Int) = 49) ↔ _ := cx_ s i hlt 49
  have b63 : (Go.Proofs.Zw.PrintWords.bt s (i : Int) = 63) ↔ _ := cx_ s i hlt 63
  simp only [gb_.l0]
  rw [if_pos Qa, if_pos Qa, show wrap64 ((i : Int) + 1) = ((i + 1 : Nat) : Int) from by unfold wrap64; omega, e, List.drop_eq_getElem_cons hlt, List.all_cons]
  unfold chB
  by_cases c1 : s.data.toList[i] = 48
  ·rw [if_pos (b48.2 c1), c1]; rfl
  rw [if_neg (fun q => c1 (b48.1 q))]
  by_cases c2 : s.data.toList[i] = 49
  ·rw [if_pos (b49.2 c2), c2]; rfl
  rw [if_neg (fun q => c2 (b49.1 q))]
  by_cases c3 : s.data.toList[i] = 63
  ·rw [if_pos (b63.2 c3), c3]; rfl
  ·rw [if_neg (fun q => c3 (b63.1 q)), beq_false_of_ne c1, beq_false_of_ne c2, beq_false_of_ne c3]; rfl
theorem nu_ (s : ByteArray) (k : Nat) (hk : 100 ≤ k) : gb_.f k s = some (pf_ s) := by
 unfold gb_.f pf_
 by_cases h : s.size = 74
 rotate_left
 ·exact Qai
 have hl := re_ s
 have e := xe1_ s Qa 74 0 k Qa Qa
 rw [List.drop_zero] at e
 rw [if_pos Qa, show (0 : Int) = ((0 : Nat) : Int) from rfl, e, decide_eq_true h, Bool.true_and]
theorem bp_ {p : UInt8 → Bool} : ∀ l : List UInt8, (l.dropWhile p = []) ↔ l.all p = true
 | [] => by simp
 | a :: l => by
  rw [List.dropWhile_cons, List.all_cons]
  by_cases h : p a = true
  ·exact Qbu
  ·exact Qbv
theorem mt_ {p : UInt8 → Bool} : ∀ l : List UInt8, (l.dropWhile p).all p = true → l.all p = true
 | [] => by simp
 | a :: l => by
  rw [List.dropWhile_cons, List.all_cons]
  by_cases h : p a = true
  ·exact Qbw
  ·rw [if_neg h, List.all_cons]; exact id
theorem ff1_ (l cs : List UInt8) : (Lib.trimS l cs = []) ↔ l.all (cs.contains ·) = true := by
 unfold Lib.trimS Lib.trimLeftS Lib.trimRightS
 rw [bp_, List.all_reverse]
 constructor
 ·exact Qbx
 ·exact Qby
theorem nv_ (b : UInt8) : ([48, 49, 63] : List UInt8).contains b = chB b := by
 unfold chB
 rw [List.contains_cons, List.contains_cons, List.contains_cons, List.contains_nil, Bool.or_false, Bool.or_assoc]
theorem xu_ (s : ByteArray) : mj_.f s = some (pf_ s) := by
 unfold mj_.f TA.ff_.f pf_
 by_cases h : s.size = 74
 ·exact Qbz
 ·exact Qai
theorem mo_ {s : ByteArray} (h : pf_ s = true) : s.size = 74 ∧ s.data.toList.all chB = true := by
 unfold pf_ at h
 rw [Bool.and_eq_true] at h
 exact ⟨of_decide_eq_true h.1, h.2⟩
theorem nd1_ (s : ByteArray) (c : UInt8) (hs : s.size ≤ 100000) : ∀ (d i k acc : Nat), i + d = s.data.toList.length → d < k → acc + d ≤ 100000 → la_.l0 k s (c.toNat : Int) (acc : Int) (i : Int) = some ((acc + (s.data.toList.drop i).count c : Nat) : Int) := by
 intro d
 induction d with
 | zero =>
  intro i k acc hi hk ha
  obtain ⟨k, rfl⟩ : ∃ m, k = m + 1 := ⟨k - 1, Qa⟩
  have hi' : i = s.data.toList.length := by omega
  simp only [la_.l0]
  rw [if_neg (by rw [hi', re_]; omega), hi', List.drop_length]; rfl
 | succ d ih =>
  intro i k acc hi hk ha
  obtain ⟨k, rfl⟩ : ∃ m, k = m + 1 := ⟨k - 1, Qa⟩
  have hl := re_ s
  have hlt : i < s.data.toList.length := by omega
  have bc := cx_ s i hlt c
  simp only [la_.l0]
  rw [if_pos Qa, if_pos Qa, show wrap64 ((i : Int) + 1) = ((i + 1 : Nat) : Int) from by unfold wrap64; omega, show wrap64 ((acc : Int) + 1) = ((acc + 1 : Nat) : Int) from by unfold wrap64; omega, List.drop_eq_getElem_cons hlt, List.count_cons]
  by_cases c1 : s.data.toList[i] = c
  ·rw [if_pos (bc.2 c1), ih (i + 1) k (acc + 1) Qa Qa Qa, if_pos (by rw [c1]; exact beq_self_eq_true c)]
   congr 1; omega
  rw [if_neg (fun q => c1 (bc.1 q)), ih (i + 1) k acc Qa Qa Qa, if_neg (by simpa using c1)]
  rfl
theorem uk_ (s : ByteArray) (c : UInt8) (hs : s.size ≤ 80) (k : Nat) (hk : 100 ≤ k) : la_.f k s (c.toNat : Int) = some ((s.data.toList.count c : Nat) : Int) := by
 unfold la_.f
 have hl := re_ s
 have e := nd1_ s c Qa s.data.toList.length 0 k 0 Qa Qa Qa
 rw [List.drop_zero, Nat.zero_add] at e
 exact e
theorem zt_ (s : ByteArray) (c : UInt8) : l_Count.f s ⟨#[c]⟩ = some ((s.data.toList.count c : Nat) : Int) := rfl
theorem yb1_ (l : List UInt8) : strOfNums (l.map fun b => (b.toNat : Int)) = ⟨l.toArray⟩ := by
 unfold strOfNums
 congr 2
 rw [List.map_map]
 conv => rhs; rw [← List.map_id l]
 apply List.map_congr_left
 intro b _
 show UInt8.ofNat ((b.toNat : Int)).toNat = b
 rw [Int.toNat_natCast]; exact UInt8.ofNat_toNat
theorem ch1_ (s : ByteArray) (hs : s.size ≤ 100000) : ∀ (n k : Nat) (xs : List UInt8), n ≤ s.data.toList.length → n < k → xs.length + n ≤ 100000 → jb_.l0 k s (xs.map fun b => (b.toNat : Int)) ((n : Int) - 1) = some ⟨(xs ++ (s.data.toList.take n).reverse).toArray⟩ := by
 intro n
 induction n with
 | zero =>
  intro k xs hn hk hx
  obtain ⟨k, rfl⟩ : ∃ m, k = m + 1 := ⟨k - 1, Qa⟩
  simp only [jb_.l0]
  rw [if_neg Qa, yb1_, List.take_zero, List.reverse_nil, List.append_nil]
 | succ n ih =>
  intro k xs hn hk hx
  obtain ⟨k, rfl⟩ : ∃ m, k = m + 1 := ⟨k - 1, Qa⟩
  have hl := re_ s
  have hlt : n < s.data.toList.length := by omega
  have e1 : ((n + 1 : Nat) : Int) - 1 = (n : Int) := by omega
  simp only [jb_.l0]
  rw [e1, if_pos Qa, if_pos Qa, if_pos Qa, if_pos (by rw [List.length_map]; omega), mv_ s n hlt, show wrap64 ((n : Int) - 1) = (n : Int) - 1 from by unfold wrap64; omega]
  have e2 := ih k (xs ++ [s.data.toList[n]]) Qa Qa (by rw [List.length_append, List.length_singleton]; omega)
  rw [List.map_append, List.map_cons, List.map_nil] at e2
  rw [e2, List.take_succ_eq_append_getElem hlt, List.reverse_append, List.reverse_singleton, List.append_assoc]
theorem vx_ (s : ByteArray) (hs : s.size ≤ 1000) (k : Nat) (hk : 1002 ≤ k) : jb_.f k s = some (bj_ s) := by
 unfold jb_.f
 have hl := re_ s
 have e := ch1_ s Qa s.data.toList.length k [] (Nat.le_refl _) Qa (by simp; omega)
 rw [List.take_length, List.nil_append] at e
 rw [show wrap64 ((s.size : Int) - 1) = (s.data.toList.length : Int) - 1 from by rw [hl]; unfold wrap64; omega]
 exact e
theorem ay_ (s : ByteArray) (hs : s.size ≤ 1000) : ni_.f s = some (bj_ s) := by
 unfold ni_.f
 rw [if_pos Qa]
theorem qk_ (s : ByteArray) : (bj_ s).data.toList = s.data.toList.reverse := rfl
theorem gp_ (s : ByteArray) : (bj_ s).size = s.size := by
 rw [← re_, ← re_, qk_, List.length_reverse]
theorem data_inj {s t : ByteArray} (h : s.data.toList = t.data.toList) : s = t := by
 cases s; cases t
 congr 1
 exact Array.ext' h
theorem flip_flip (s : ByteArray) : bj_ (bj_ s) = s := data_inj (by rw [qk_, qk_, List.reverse_reverse])
theorem fr_ (s : ByteArray) : pf_ (bj_ s) = pf_ s := by
 unfold pf_
 rw [gp_, qk_, List.all_reverse]
end Go.Proofs.YtpkhgapifnjbeaaGreatDoor.Pure
end
section
namespace Go.Proofs.YtpkhgapifnjbeaaGreatDoor.Pure
open RowKit T Zw.PrintWords Zw.PrintLast Zw.PrintMore G Rs
instance (a b c d : Int) : Decidable (okL a b c d) := by unfold okL; infer_instance
theorem go_ (x m : Int) : sb_.f x m = some (decide (0 ≤ x ∧ x ≤ m)) := by
 unfold sb_.f
 by_cases h : x ≥ 0
 ·exact Qb0
 ·rw [if_neg h, decide_eq_false Qa]
theorem ou_ (a b c d : Int) : dd_.f a b c d = some (decide (okL a b c d)) := by
 unfold dd_.f
 rw [go_, go_, go_, go_]
 simp only [Option.bind_some, decide_eq_true_eq]
 by_cases h1 : 0 ≤ a ∧ a ≤ 31
 ·exact Qb1
 ·exact Qb2
theorem ew_ (x : Int) : offB x = true ↔ ¬ (0 ≤ x ∧ x ≤ 31) := by
 unfold offB
 rw [Bool.or_eq_true, decide_eq_true_eq, decide_eq_true_eq]; omega
theorem av_ (a b c d : Int) : TA.tf_.f a b c d = some (decide (okL a b c d)) := by
 unfold TA.tf_.f oq_.f
 rw [if_pos (show ([a, c, d] : List Int).length ≤ 1000 by simp)]
 simp only [Option.bind_some]
 have ha : ([a, c, d] : List Int).any offB = true ↔ ¬ ((0 ≤ a ∧ a ≤ 31) ∧ (0 ≤ c ∧ c ≤ 31) ∧ (0 ≤ d ∧ d ≤ 31)) := by
  rw [List.any_cons, List.any_cons, List.any_cons, List.any_nil, Bool.or_false, Bool.or_eq_true, Bool.or_eq_true, ew_, ew_, ew_]
  omega
 by_cases h : ([a, c, d] : List Int).any offB = true
 ·exact Qb3
 ·exact Qb4
theorem rr_ (a b c d : Int) : lj_.f a b c d = some (decide (okL a b c d)) := av_ a b c d
def symL (a b c d : Int) : List Int := [a, b / 1024, b / 32 % 32, b % 32, c, d]
def zz_ (a b c d : Int) : List Int × Int := if okL a b c d then (symL a b c d, 0) else ([], 2)
theorem vf1_ {a b c d : Int} (h : okL a b c d) : ([a, wrap64 (Int.tdiv b 1024), Int.tmod (wrap64 (Int.tdiv b 32)) 32, Int.tmod b 32, c, d] : List Int) = symL a b c d := by
 unfold okL at h
 have e1 : Int.tdiv b 1024 = b / 1024 := Int.tdiv_eq_ediv_of_nonneg Qa
 have e2 : Int.tdiv b 32 = b / 32 := Int.tdiv_eq_ediv_of_nonneg Qa
 have e3 : Int.tmod b 32 = b % 32 := Int.tmod_eq_emod_of_nonneg Qa
 have e4 : Int.tmod (b / 32) 32 = b / 32 % 32 := Int.tmod_eq_emod_of_nonneg Qa
 rw [e1, e2, e3, show wrap64 (b / 1024) = b / 1024 from by unfold wrap64; omega, show wrap64 (b / 32) = b / 32 from by unfold wrap64; omega, e4]
 rfl
theorem kw_ (a b c d : Int) : be_.f a b c d = some (zz_ a b c d) := by
 unfold be_.f zz_
 rw [ou_]
 simp only [Option.bind_some]
 by_cases h : okL a b c d
 ·exact Yb
 ·exact Yc
theorem rw_ (a b c d : Int) : TA.ze_.f a b c d = some (zz_ a b c d) := by
 unfold TA.ze_.f zz_
 rw [av_]
 simp only [Option.bind_some]
 by_cases h : okL a b c d
 ·exact Yb
 ·exact Yc
theorem qy_ {x : Int} (h : 0 ≤ x ∧ x ≤ 31) : isEl x = true := by
 unfold isEl
 first | (rw [Bool.and_eq_true, decide_eq_true_eq, decide_eq_true_eq]; omega) | (simp; omega)
theorem qm_ {a b c d : Int} (h : okL a b c d) : hi_ (symL a b c d) = true := by
 unfold okL at h
 have h1 : isEl a = true := qy_ h.1
 have h2 : isEl (b / 1024) = true := qy_ Qa
 have h3 : isEl (b / 32 % 32) = true := qy_ Qa
 have h4 : isEl (b % 32) = true := qy_ Qa
 have h5 : isEl c = true := qy_ h.2.2.1
 have h6 : isEl d = true := qy_ h.2.2.2
 unfold hi_ symL
 simp [h1, h2, h3, h4, h5, h6]
theorem em_ (s : ByteArray) (n : Nat) : (s.extract 0 n).data.toList = s.data.toList.take n := by
 rw [ByteArray.data_extract, Array.toList_extract]
 simp [List.extract]
theorem do_ (s : ByteArray) (n : Nat) : (s.extract n s.size).data.toList = s.data.toList.drop n := by
 rw [ByteArray.data_extract, Array.toList_extract]
 have hl := re_ s
 simp only [List.extract]
 rw [List.take_of_length_le Qal]
def begB (s : ByteArray) : Bool := decide (4 ≤ (s.data.toList.take 7).count 49) && decide (4 ≤ (s.data.toList.drop 67).count 48)
theorem qr_ (s : ByteArray) (h : s.size = 74) : bf_.f s = some (begB s) := by
 unfold bf_.f TA.li_.f begB
 rw [if_pos Qa, if_pos Qa, zt_, em_]
 simp only [Option.bind_some]
 rw [zt_, do_]
 simp only [Option.bind_some]
 by_cases h1 : 4 ≤ (s.data.toList.take 7).count 49
 ·exact Qb5
 ·exact Qb6
def upS (s : ByteArray) : ByteArray × Int := if pf_ s = true then (if begB s = true then (s, 0) else if begB (bj_ s) = true then (bj_ s, 0) else (⟨#[]⟩, 26)) else (⟨#[]⟩, 7)
theorem aq_ (s : ByteArray) : cf_.f s = some (upS s) := by
 unfold cf_.f upS
 rw [xu_]
 simp only [Option.bind_some]
 by_cases h : pf_ s = true
 ·exact Qb7
 ·exact X0
theorem zw_ (s : ByteArray) (h : s.size = 74) : begB (bj_ s) = (decide (4 ≤ (s.data.toList.take 7).count 48) && decide (4 ≤ (s.data.toList.drop 67).count 49)) := by
 unfold begB
 have hl := re_ s
 rw [qk_, List.take_reverse, List.drop_reverse, List.count_reverse, List.count_reverse, hl, h, Bool.and_comm]
theorem lw_ (s : ByteArray) (k : Nat) (hk : 1100 ≤ k) : ib_.f k s = some (upS s) := by
 obtain ⟨k', rfl⟩ : ∃ m, k = m + 1 := ⟨k - 1, Qa⟩
 unfold ib_.f upS
 rw [nu_ s _ Qa]
 simp only [Option.bind_some]
 by_cases h : pf_ s = true
 rotate_left
 ·exact X0
 obtain ⟨h74, _⟩ := mo_ h
 have z1 : (s.extract 0 7).size ≤ 80 := by rw [← re_, em_, List.length_take]; omega
 have z2 : (s.extract 67 s.size).size ≤ 80 := by rw [← re_, do_, List.length_drop, re_]; omega
 have c1 : ∀ k, 100 ≤ k → la_.f k (s.extract 0 7) 49 = some (((s.data.toList.take 7).count 49 : Nat) : Int) := fun k hk => by have := uk_ _ 49 z1 k hk; rwa [em_] at this
 have c2 : ∀ k, 100 ≤ k → la_.f k (s.extract 67 s.size) 48 = some (((s.data.toList.drop 67).count 48 : Nat) : Int) := fun k hk => by have := uk_ _ 48 z2 k hk; rwa [do_] at this
 have c3 : ∀ k, 100 ≤ k → la_.f k (s.extract 0 7) 48 = some (((s.data.toList.take 7).count 48 : Nat) : Int) := fun k hk => by have := uk_ _ 48 z1 k hk; rwa [em_] at this
 have c4 : ∀ k, 100 ≤ k → la_.f k (s.extract 67 s.size) 49 = some (((s.data.toList.drop 67).count 49 : Nat) : Int) := fun k hk => by have := uk_ _ 49 z2 k hk; rwa [do_] at this
 have j0 : ∀ b, ib_.j0 (k' + 1) s b = some (if b = true then (s, 0) else if begB (bj_ s) = true then (bj_ s, 0) else (⟨#[]⟩, 26)) := by
  intro b
  simp only [ib_.j0]
  by_cases hb : b = true
  ·rw [if_pos hb, if_pos hb]
  rw [if_neg hb, if_neg hb, if_pos Qa, if_pos Qa, c3 _ Qa, zw_ s h74]
  simp only [Option.bind_some]
  by_cases g1 : 4 ≤ (s.data.toList.take 7).count 48
  rotate_left
  ·rw [if_neg Qa, decide_eq_false g1, Bool.false_and, if_neg Qj]
  rw [if_pos Qa, if_pos Qa, c4 _ Qa, decide_eq_true g1, Bool.true_and]
  simp only [Option.bind_some]
  by_cases g2 : 4 ≤ (s.data.toList.drop 67).count 49
  ·rw [if_pos Qa, vx_ s Qa _ Qa, decide_eq_true g2, if_pos rfl]
   rfl
  ·rw [if_neg Qa, decide_eq_false g2, if_neg Qj]
 rw [if_pos h, if_pos h, if_pos Qa, if_pos Qa, c1 _ Qa]
 simp only [Option.bind_some]
 by_cases g1 : 4 ≤ (s.data.toList.take 7).count 49
 rotate_left
 ·rw [if_neg Qa, j0, if_neg Qj, if_neg (show ¬ begB s = true by unfold begB; rw [decide_eq_false g1, Bool.false_and]; decide)]
 rw [if_pos Qa, if_pos Qa, c2 _ Qa]
 simp only [Option.bind_some]
 rw [j0]
 congr 2
 unfold begB
 rw [decide_eq_true g1, Bool.true_and]
 refine propext ?_
 rw [decide_eq_true_eq, decide_eq_true_eq]; omega
end Go.Proofs.YtpkhgapifnjbeaaGreatDoor.Pure
end
section
namespace Go.Proofs.YtpkhgapifnjbeaaGreatDoor.Pure
open RowKit Go.Lib Go.Lib.Hx T Zw.PrintWords Zw.PrintLast Zw.PrintMore G Rs
theorem nj_ (s : ByteArray) (i : Nat) (h : i < s.data.toList.length) : ci_ s i = ((s.data.toList[i]).toNat : Int) := by
 unfold ci_ numsOf
 rw [List.getD_eq_getElem?_getD, List.getElem?_map, List.getElem?_eq_getElem h]
 rfl
def tw_ (s : ByteArray) : List Int × Int := if pf_ s = true then (yn_ s, 0) else ([], 7)
theorem by_ (s : ByteArray) : sj_.f s = some (tw_ s) := by
 unfold sj_.f tw_
 rw [show TA.ff_.f s = some (pf_ s) from xu_ s]
 simp only [Option.bind_some]
 by_cases h : pf_ s = true
 ·rw [if_pos h, if_pos h]
 ·exact X0
end Go.Proofs.YtpkhgapifnjbeaaGreatDoor.Pure
end
section
namespace Go.Proofs.YtpkhgapifnjbeaaGreatDoor.Pure
open RowKit Go.Lib Go.Lib.Hx T Zw.PrintWords Zw.PrintLast Zw.PrintMore G Rs
theorem di1_ : ∀ x : Fin 32, ∀ j : Fin 5, Go.bits .and .i64 (shr .i64 (x.1 : Int) (IntKind.u64.wrap (j.1 : Int))) 1 = if (x.1 / 2 ^ j.1) % 2 = 1 then 1 else 0 := by decide +kernel
theorem nh1_ (x : Nat) (hx : x < 32) : ∀ (d j k : Nat), j + d = 5 → d < k → ob_.l0 k (x : Int) ⟨(kf_ (x : Int) j).toArray⟩ ((d : Int) - 1) = some ⟨(kf_ (x : Int) 5).toArray⟩ := by
 intro d
 induction d with
 | zero =>
  intro j k hj hk
  obtain ⟨k, rfl⟩ : ∃ m, k = m + 1 := ⟨k - 1, Qa⟩
  obtain rfl : j = 5 := by omega
  simp only [ob_.l0]
  rw [if_neg Qa]
 | succ d ih =>
  intro j k hj hk
  obtain ⟨k, rfl⟩ : ∃ m, k = m + 1 := ⟨k - 1, Qa⟩
  have e := ih (j + 1) k Qa Qa
  have hb := di1_ ⟨x, hx⟩ ⟨d, Qa⟩
  simp only at hb
  have hw : 0 ≤ IntKind.u64.wrap (d : Int) := by
   have : IntKind.u64.wrap (d : Int) = (d : Int) := by
    have : d < 5 := by omega
    match d, this with
    | 0, _ => rfl
    | 1, _ => rfl
    | 2, _ => rfl
    | 3, _ => rfl
    | 4, _ => rfl
   omega
  have hsz : (⟨(kf_ (x : Int) j).toArray⟩ : ByteArray).size = j := by rw [← re_]; exact yh_ _ _
  have hm := op_ (x : Int) j
  rw [show ((d + 1 : Nat) : Int) - 1 = (d : Int) from by omega]
  simp only [ob_.l0]
  rw [if_pos Qa, if_pos hw, hb, show wrap64 ((d : Int) - 1) = (d : Int) - 1 from by unfold wrap64; omega]
  have ebit : bitB (x : Int) j = if (x / 2 ^ d) % 2 = 1 then 49 else 48 := by
   unfold bitB
   rw [show 4 - j = d from by omega, Int.toNat_natCast]
  by_cases c : (x / 2 ^ d) % 2 = 1
  ·exact Qb8
  ·exact Qb9
theorem zi1_ (x : Int) (hx : 0 ≤ x ∧ x < 32) (k : Nat) (hk : 10 ≤ k) : ob_.f k x = some ⟨(kf_ x 5).toArray⟩ := by
 obtain ⟨n, rfl⟩ := Int.eq_ofNat_of_zero_le hx.1
 unfold ob_.f
 exact nh1_ n Qa 5 0 k Qa Qa
theorem rg1_ (ws : List Int) (hl : ws.length ≤ 100) (he : uj_ ws = true) : ∀ (d i k : Nat), i + d = ws.length → d + 20 < k → tb_.l0 k ws ⟨(xf_ ws i).toArray⟩ (i : Int) = some (vh_ ws, 0) := by
 intro d
 induction d with
 | zero =>
  intro i k hi hk
  obtain ⟨k, rfl⟩ : ∃ m, k = m + 1 := ⟨k - 1, Qa⟩
  obtain rfl : i = ws.length := by omega
  have h6 := cl_ ws ws.length (Nat.le_refl _) hl
  have hsz : (⟨(xf_ ws ws.length).toArray⟩ : ByteArray).size = (xf_ ws ws.length).length := rfl
  simp only [tb_.l0]
  rw [if_neg Qa, if_pos Qa]
  congr 2
 | succ d ih =>
  intro i k hi hk
  obtain ⟨k, rfl⟩ : ∃ m, k = m + 1 := ⟨k - 1, Qa⟩
  have e := ih (i + 1) k Qa Qa
  have h6 := cl_ ws i Qa hl
  have hsz : (⟨(xf_ ws i).toArray⟩ : ByteArray).size = (xf_ ws i).length := rfl
  have hsz2 : (⟨(kf_ (rd ws (i : Int)) 5).toArray⟩ : ByteArray).size = 5 := yh_ _ _
  have hx := bl_ he i Qa
  unfold isEl at hx
  rw [Bool.and_eq_true, decide_eq_true_eq, decide_eq_true_eq] at hx
  have hr : rd ws (i : Int) = ws.getD i 0 := ye_ ws i
  have hm := zo_ ws i Qa
  simp only [tb_.l0]
  rw [if_pos Qa, if_pos Qa, zi1_ _ (by rw [hr]; exact hx) k Qa]
  simp only [Option.bind_some]
  rw [if_pos Qa, show wrap64 ((i : Int) + 1) = ((i + 1 : Nat) : Int) from by unfold wrap64; omega]
  rw [show (⟨(xf_ ws i).toArray⟩ : ByteArray) ++ (⟨(kf_ (rd ws (i : Int)) 5).toArray⟩ : ByteArray) = ⟨(xf_ ws (i + 1)).toArray⟩ from data_inj (by rw [← hm]; simp)]
  exact e
def pv_ (a b c d : Int) : ByteArray × Int := if okL a b c d then (vh_ (encC (symL a b c d)), 0) else (⟨#[]⟩, 2)
theorem za1_ {a b c d : Int} (h : okL a b c d) : encS (symL a b c d) = (encC (symL a b c d), 0) := by
 unfold encS
 rw [if_pos (qm_ h)]
theorem dh_ {a b c d : Int} (h : okL a b c d) : (encC (symL a b c d)).length = 12 := by
 rw [xm_ (qm_ h)]; rfl
theorem sv_ {a b c d : Int} (h : okL a b c d) : uj_ (encC (symL a b c d)) = true := (jq_ (lg_ (hs_ (qm_ h))).1).1
theorem ne1_ (a b c d : Int) (k : Nat) (hk : 50 ≤ k) : tb_.f k a b c d = some (pv_ a b c d) := by
 unfold tb_.f pv_
 rw [kw_]
 simp only [Option.bind_some]
 unfold zz_
 by_cases h : okL a b c d
 ·exact Qca
 ·exact Yd
theorem zx_ (a b c d : Int) : sh_.f a b c d = some (pv_ a b c d) := by
 unfold sh_.f pv_
 rw [rw_]
 simp only [Option.bind_some]
 unfold zz_
 by_cases h : okL a b c d
 ·exact Qcb
 ·exact Yd
theorem fo_ (l : List Int) : (l.flatMap fun x => kf_ x 5).length = 5 * l.length := by
 induction l with
 | nil => rfl
 | cons a l ih => rw [List.flatMap_cons, List.length_append, ih, yh_, List.length_cons]; omega
theorem vi_ (ws : List Int) (h : ws.length = 12) : (vh_ ws).size = 74 := by
 rw [← re_]
 show (xf_ ws ws.length ++ lq_).length = 74
 unfold xf_
 rw [List.take_length, List.length_append, List.length_append, fo_, h]; rfl
theorem yi1_ (x : Int) (j : Nat) : chB (bitB x j) = true := by
 unfold bitB
 split <;> rfl
theorem yo_ (ws : List Int) (h : ws.length = 12) : pf_ (vh_ ws) = true := by
 unfold pf_
 rw [vi_ ws h, decide_eq_true rfl, Bool.true_and]
 show (xf_ ws ws.length ++ lq_).all chB = true
 unfold xf_
 rw [List.all_append, List.all_append, List.all_flatMap]
 have : (ws.take ws.length).all (fun x => (kf_ x 5).all chB) = true := by
  rw [List.all_eq_true]
  intro x _
  unfold kf_
  rw [List.all_map, List.all_eq_true]
  intro j _
  exact yi1_ x j
 rw [this]; rfl
end Go.Proofs.YtpkhgapifnjbeaaGreatDoor.Pure
end
section
namespace Go.Proofs.YtpkhgapifnjbeaaGreatDoor.Pure
open RowKit Go.Lib Go.Lib.Hx T Zw.PrintWords Zw.PrintLast Zw.PrintMore G Rs
theorem dv_ (s : ByteArray) : (yn_ s).length = 12 := by unfold yn_; rw [List.length_map, List.length_range]
theorem nx_ : ∀ (l : List Int) (i k : Nat), i < l.length → k < 5 → ∀ h : i * 5 + k < (l.flatMap fun x => kf_ x 5).length, (l.flatMap fun x => kf_ x 5)[i * 5 + k] = bitB (l.getD i 0) k
 | [], i, k, hi, _ => by simp at hi
 | a :: l, 0, k, _, hk => by
  intro h
  simp only [List.flatMap_cons] at h ⊢
  rw [List.getElem_append_left (by rw [yh_]; omega)]
  simp [kf_]
 | a :: l, i + 1, k, hi, hk => by
  intro h
  simp only [List.flatMap_cons] at h ⊢
  rw [List.getElem_append_right (by rw [yh_]; omega)]
  have e : (i + 1) * 5 + k - (kf_ a 5).length = i * 5 + k := by rw [yh_]; omega
  have := nx_ l i k (by simpa using hi) hk (by rw [fo_]; simp at hi; omega)
  simp only [e]
  rw [this]
  simp
theorem ui_ (ws : List Int) : (vh_ ws).data.toList = eu_ ++ ((ws.flatMap fun x => kf_ x 5) ++ lq_) := by
 show xf_ ws ws.length ++ lq_ = _
 unfold xf_
 rw [List.take_length, List.append_assoc]
theorem lt_ (ws : List Int) (hl : ws.length = 12) (i k : Nat) (hi : i < 12) (hk : k < 5) : ci_ (vh_ ws) (7 + i * 5 + k) = ((bitB (ws.getD i 0) k).toNat : Int) := by
 have hs := vi_ ws hl
 have hz := re_ (vh_ ws)
 rw [nj_ _ _ Qa]
 have hf := fo_ ws
 have : (vh_ ws).data.toList[7 + i * 5 + k]'Qa = bitB (ws.getD i 0) k := by
  have h3 : ∀ (L : List UInt8) (e : (vh_ ws).data.toList = L) (h : 7 + i * 5 + k < L.length), (vh_ ws).data.toList[7 + i * 5 + k]'Qa = L[7 + i * 5 + k] := by
   intro L e h; subst e; rfl
  rw [h3 _ (ui_ ws) (by rw [← ui_]; omega)]
  rw [List.getElem_append_right (by show 7 ≤ _; omega)]
  rw [List.getElem_append_left (by rw [hf]; show 7 + i * 5 + k - 7 < _; omega)]
  have := nx_ ws i k Qa hk Qa
  rw [← this]
  congr 1
  show 7 + i * 5 + k - 7 = i * 5 + k
  omega
 rw [this]
theorem ja1_ : ∀ x : Fin 32, (((((0 * 2 + (((bitB (x.1 : Int) 0).toNat : Int) - 48) % 256) * 2 + (((bitB (x.1 : Int) 1).toNat : Int) - 48) % 256) * 2 + (((bitB (x.1 : Int) 2).toNat : Int) - 48) % 256) * 2 + (((bitB (x.1 : Int) 3).toNat : Int) - 48) % 256) * 2 + (((bitB (x.1 : Int) 4).toNat : Int) - 48) % 256) = (x.1 : Int) := by decide +kernel
theorem xi1_ (x : Int) (k : Nat) : ((bitB x k).toNat : Int) ≠ 63 := by
 unfold bitB
 split <;> decide
theorem vc1_ (ws : List Int) (hl : ws.length = 12) (he : uj_ ws = true) : yn_ (vh_ ws) = ws := by
 apply List.ext_getElem (by rw [dv_, hl])
 intro i h1 h2
 have hi : i < 12 := by omega
 simp only [yn_, List.getElem_map, List.getElem_range]
 have hq : ¬ hasQ (vh_ ws) i = true := by
  unfold hasQ
  rw [List.any_eq_true]
  rintro ⟨k, hk, h⟩
  rw [List.mem_range] at hk
  have h := of_decide_eq_true h
  rw [lt_ ws hl i k hi hk] at h
  exact xi1_ _ _ h
 have hx := bl_ he i h2
 unfold isEl at hx
 rw [Bool.and_eq_true, decide_eq_true_eq, decide_eq_true_eq] at hx
 have hg : ws.getD i 0 = ws[i] := by rw [List.getD_eq_getElem?_getD, List.getElem?_eq_getElem h2]; rfl
 unfold symS
 rw [if_neg hq]
 have hb := fun k hk => lt_ ws hl i k hi hk
 rw [hg] at hx hb
 obtain ⟨n, hn⟩ := Int.eq_ofNat_of_zero_le hx.1
 have := ja1_ ⟨n, Qa⟩
 simp only at this
 simp only [symTo]
 rw [hb 0 Qa, hb 1 Qa, hb 2 Qa, hb 3 Qa, hb 4 Qa, hn]
 exact this
theorem fd1_ (ws : List Int) (hl : ws.length = 12) : begB (vh_ ws) = true := by
 unfold begB
 have hf := fo_ ws
 have e1 : (vh_ ws).data.toList.take 7 = eu_ := by
  rw [ui_]; exact List.take_left' rfl
 have e2 : (vh_ ws).data.toList.drop 67 = lq_ := by
  rw [ui_, ← List.append_assoc]
  exact List.drop_left' (by rw [List.length_append, hf, hl]; rfl)
 rw [e1, e2]; decide
theorem gd1_ (ws : List Int) (hl : ws.length = 12) : begB (bj_ (vh_ ws)) = false := by
 rw [zw_ _ (vi_ ws hl)]
 have e1 : (vh_ ws).data.toList.take 7 = eu_ := by
  rw [ui_]; exact List.take_left' rfl
 rw [e1]
 have : decide (4 ≤ eu_.count 48) = false := by decide
 rw [this, Bool.false_and]
theorem mi1_ (ws : List Int) (hl : ws.length = 12) : upS (bj_ (vh_ ws)) = (vh_ ws, 0) := by
 unfold upS
 rw [fr_, if_pos (yo_ ws hl), gd1_ ws hl, if_neg Qj, flip_flip, if_pos (fd1_ ws hl)]
theorem zh1_ {a b c d : Int} (h : okL a b c d) (s : ByteArray) (hu : upS s = (vh_ (encC (symL a b c d)), 0)) : ee_.f s = some (a, b, c, d, 0, 0) := by
 have hl := dh_ h
 unfold ee_.f
 rw [aq_, hu]
 simp only [Option.bind_some]
 rw [if_pos trivial, by_]
 unfold tw_
 rw [if_pos (yo_ _ hl), vc1_ _ hl (sv_ h)]
 simp only [Option.bind_some]
 unfold tn_.f
 rw [pg1_ (qm_ h)]
 simp only [Option.bind_some]
 have h6 : (symL a b c d).length = 6 := rfl
 rw [if_pos trivial]
 iterate 6 rw [if_pos Qa]
 have r0 : rd (symL a b c d) 0 = a := rfl
 have r1 : rd (symL a b c d) 1 = b / 1024 := rfl
 have r2 : rd (symL a b c d) 2 = b / 32 % 32 := rfl
 have r3 : rd (symL a b c d) 3 = b % 32 := rfl
 have r4 : rd (symL a b c d) 4 = c := rfl
 have r5 : rd (symL a b c d) 5 = d := rfl
 have hb : wrap64 (wrap64 (wrap64 (b / 1024 * 1024) + wrap64 (b / 32 % 32 * 32)) + b % 32) = b := by
  have := h
  unfold okL at this
  unfold wrap64; omega
 rw [r0, r1, r2, r3, r4, r5, hb, rr_, decide_eq_true h]
 simp only [Option.bind_some]
 rw [if_pos trivial]
theorem kg1_ : pe_.f = some true := by
 have ok1 : okL 3 9999 2 1 := by decide
 have ok2 : okL 0 0 0 0 := by decide
 have hd1 : sh_.f 3 9999 2 1 = some (vh_ (encC (symL 3 9999 2 1)), 0) := by rw [zx_]; unfold pv_; rw [if_pos ok1]
 have hd2 : sh_.f 0 0 0 0 = some (vh_ (encC (symL 0 0 0 0)), 0) := by rw [zx_]; unfold pv_; rw [if_pos ok2]
 have z1 := vi_ _ (dh_ ok1)
 have z2 := vi_ _ (dh_ ok2)
 have hr := zh1_ ok1 _ (mi1_ _ (dh_ ok1))
 have e8 : ((vh_ (encC (symL 0 0 0 0))).extract 0 8).toList = ([49, 49, 49, 49, 49, 49, 49, 48] : List UInt8) := by
  rw [ByteArray.toList_eq, em_, ui_]
  have hl := dh_ ok2
  have h0 := fx_ (qm_ ok2) 0 Qj
  match hq : encC (symL 0 0 0 0), hl, h0 with
  | x :: l, _, h0 =>
   have : x = 0 := h0
   subst this
   rfl
 unfold pe_.f
 rw [hd1]
 simp only [Option.bind_some]
 rw [ay_ _ Qa]
 simp only [Option.bind_some]
 rw [hr]
 simp only [Option.bind_some]
 rw [hd2]
 simp only [Option.bind_some]
 rw [if_pos trivial, if_pos Qa, if_pos trivial, if_pos trivial, if_pos Qj, if_pos trivial, if_pos Qa, if_pos Qj, if_pos Qa, e8]
 rfl
end Go.Proofs.YtpkhgapifnjbeaaGreatDoor.Pure
end
section
namespace Go.Proofs.YtpkhgapifnjbeaaGreatDoor.Pure
open RowKit Go.Lib Go.Lib.Hx T Zw.PrintWords Zw.PrintLast Zw.PrintMore G Rs
theorem piece (s : ByteArray) (hs : s.size ≤ 100000) (i : Nat) (hi : i < s.size) (c : UInt8) (p : Option ByteArray → Prop) (h : p (some ((s.extract 0 i ++ ⟨#[c]⟩) ++ s.extract (i + 1) s.size))) :
  p (if (i : Int) ≤ (s.size : Int) then (if (s.extract 0 (i : Int).toNat).size + 1 ≤ 9223372036854775807 then (if 0 ≤ (wrap64 ((i : Int) + 1)) then (if (wrap64 ((i : Int) + 1)) ≤ (s.size : Int) then (if ((s.extract 0 (i : Int).toNat) ++ (⟨#[c]⟩ : ByteArray)).size + (s.extract ((wrap64 ((i : Int) + 1)) : Int).toNat s.size).size ≤ 9223372036854775807 then (some (((s.extract 0 (i : Int).toNat) ++ (⟨#[c]⟩ : ByteArray)) ++ (s.extract ((wrap64 ((i : Int) + 1)) : Int).toNat s.size))) else (none)) else (none)) else (none)) else (none)) else (none)) := by
 have e : wrap64 ((i : Int) + 1) = ((i + 1 : Nat) : Int) := by unfold wrap64; omega
 have h1 : (⟨#[c]⟩ : ByteArray).size = 1 := rfl
 rw [e, Int.toNat_natCast, Int.toNat_natCast, if_pos Qa, if_pos (by rw [ByteArray.size_extract]; omega), if_pos Qa, if_pos Qa, if_pos (by rw [ByteArray.size_append, ByteArray.size_extract, ByteArray.size_extract]; omega)]
 exact h
theorem gz_ (s : ByteArray) (i : Nat) (hi : i < s.size) (c : UInt8) : ((s.extract 0 i ++ ⟨#[c]⟩) ++ s.extract (i + 1) s.size).size = s.size := by
 have h1 : (⟨#[c]⟩ : ByteArray).size = 1 := rfl
 rw [ByteArray.size_append, ByteArray.size_append, ByteArray.size_extract, ByteArray.size_extract]; omega
theorem kd1_ (s : ByteArray) (hs : s.size ≤ 100000) (i : Nat) (hi : i < s.size) (v : Int) (k : Nat) (hk : 1 ≤ k) : ∃ t, zb_.f k s (i : Int) v = some t ∧ t.size = s.size := by
 obtain ⟨k, rfl⟩ : ∃ m, k = m + 1 := ⟨k - 1, Qa⟩
 unfold zb_.f
 rw [if_neg Qa, decide_eq_false Qa]
 simp only [zb_.j0]
 rw [if_neg Qj, if_pos Qa, if_pos Qa]
 have P : ∀ c, ∃ t, some ((s.extract 0 i ++ ⟨#[c]⟩) ++ s.extract (i + 1) s.size) = some t ∧ t.size = s.size := fun c => ⟨_, rfl, gz_ s i hi c⟩
 split
 ·split
  ·exact Qar
  ·exact piece s hs i hi 49 (fun o => ∃ t, o = some t ∧ t.size = s.size) (P 49)
 split
 ·exact Qar
 ·exact piece s hs i hi 48 (fun o => ∃ t, o = some t ∧ t.size = s.size) (P 48)
theorem va1_ {L : List Int} (hL : L.length ≤ 600) : ∀ (n k : Nat) (p : Int) (s : ByteArray), n < k → n ≤ 1000 → TA p → s.size = 74 → ∃ t q, bb_.l0 k s (n : Int) L p = some (t, q) ∧ t.size = 74 ∧ TA q := by
 intro n
 induction n with
 | zero =>
  intro k p s hk hn hp hs
  obtain ⟨k, rfl⟩ : ∃ m, k = m + 1 := ⟨k - 1, Qa⟩
  simp only [bb_.l0]
  rw [if_neg Qa]
  exact ⟨_, _, rfl, hs, hp⟩
 | succ n ih =>
  intro k p s hk hn hp hs
  obtain ⟨k, rfl⟩ : ∃ m, k = m + 1 := ⟨k - 1, Qa⟩
  obtain ⟨v, q, e, v0, v1, hq⟩ := hm_ hL hp (s.size : Int) Qa Qa
  obtain ⟨u, q2, e2, _, _, hq2⟩ := hm_ hL hq 2 Qa Qa
  obtain ⟨i, rfl⟩ := Int.eq_ofNat_of_zero_le v0
  obtain ⟨t, e3, h3⟩ := kd1_ s Qa i Qa u k Qa
  obtain ⟨t4, q4, e4, h4, hq4⟩ := ih k q2 t Qa Qa hq2 Qa
  simp only [bb_.l0]
  rw [if_pos Qa, e]
  simp only [Option.bind_some]
  rw [e2]
  simp only [Option.bind_some]
  rw [e3]
  simp only [Option.bind_some]
  rw [show wrap64 (((n + 1 : Nat) : Int) - 1) = (n : Int) from by unfold wrap64; omega, e4]
  exact ⟨_, _, rfl, h4, hq4⟩
theorem od1_ {L : List Int} (hL : L.length ≤ 600) (m : Nat) (hm : m ≤ 1000) (k : Nat) (hk : m < k) {p : Int} (hp : TA p) (s : ByteArray) (hs : s.size = 74) : ∃ t q, bb_.f k L p s (m : Int) = some (t, q) ∧ t.size = 74 ∧ TA q := by
 obtain ⟨v, q, e, v0, v1, hq⟩ := us_ hL hp 0 (m : Int) Qa Qa Qa
 obtain ⟨i, rfl⟩ := Int.eq_ofNat_of_zero_le v0
 unfold bb_.f
 rw [e]
 simp only [Option.bind_some]
 exact va1_ hL i k q s Qa Qa hq hs
theorem qu_ (l : List ByteArray) (i : Int) (h : ∀ x ∈ l, x.size ≤ 1) : (rdOf ByteArray.empty l i).size ≤ 1 := by
 unfold rdOf
 rw [List.getD_eq_getElem?_getD]
 cases h2 : l[i.toNat]? with
 | none => decide
 | some x => exact h x (List.mem_of_getElem? h2)
theorem kj1_ : ∀ x ∈ ([(⟨#[]⟩ : ByteArray), (⟨#[48]⟩ : ByteArray), (⟨#[50]⟩ : ByteArray)] : List ByteArray), x.size ≤ 1 := by decide
theorem mf1_ {L : List Int} (hL : L.length ≤ 600) (k : Nat) {p : Int} (hp : TA p) (s : ByteArray) (hs : s.size = 74) : ∃ t q, na_.j0 (k + 1) s L p = some (t, q) ∧ t.size ≤ 75 ∧ TA q := by
 obtain ⟨b, q, e, hq⟩ := bj1_ hL hp 12 Qa Qa
 simp only [na_.j0]
 rw [e]
 simp only [Option.bind_some]
 by_cases hb : b = true
 rotate_left
 ·rw [if_neg hb]
  exact ⟨_, _, rfl, Qa, hq⟩
 obtain ⟨v, q2, e2, v0, v1, hq2⟩ := hm_ hL hq 2 Qa Qa
 obtain ⟨u, q3, e3, u0, u1, hq3⟩ := hm_ hL hq2 3 Qa Qa
 rw [if_pos hb, e2]
 simp only [Option.bind_some]
 rw [if_pos v0, if_pos Qa, e3]
 simp only [Option.bind_some]
 have hz := qu_ _ u kj1_
 have hx : (s.extract v.toNat s.size).size ≤ 74 := by rw [ByteArray.size_extract]; omega
 rw [if_pos u0, if_pos (by simpa using u1), if_pos Qa]
 exact ⟨_, _, rfl, by rw [ByteArray.size_append]; omega, hq3⟩
theorem kt_ {L : List Int} (hL : L.length ≤ 600) (m : Nat) (hm : m ≤ 1000) (k : Nat) (hk : 1100 ≤ k) {p : Int} (hp : TA p) : ∃ t q, na_.f k L p (m : Int) = some (t, q) ∧ t.size ≤ 75 ∧ TA q := by
 obtain ⟨k', rfl⟩ : ∃ m, k = m + 1 := ⟨k - 1, Qa⟩
 obtain ⟨a, b, c, d, q1, e1, h1, o1⟩ := hh1_ hL hp 0 Qa
 have ok := o1 rfl
 have hd : (vh_ (encC (symL a b c d))).size = 74 := vi_ _ (dh_ ok)
 obtain ⟨t2, q2, e2, z2, h2⟩ := od1_ hL m hm (k' + 1) Qa h1 (vh_ (encC (symL a b c d))) hd
 obtain ⟨v, q3, e3, _, _, h3⟩ := hm_ hL h2 2 Qa Qa
 unfold na_.f
 rw [e1]
 simp only [Option.bind_some]
 rw [ne1_ _ _ _ _ _ Qa]
 simp only [Option.bind_some]
 unfold pv_
 rw [if_pos ok, e2]
 simp only [Option.bind_some]
 rw [e3]
 simp only [Option.bind_some]
 by_cases hv : v = 1
 ·rw [if_pos hv, vx_ t2 Qa _ Qa]
  simp only [Option.bind_some]
  exact mf1_ hL k' h3 (bj_ t2) (by rw [gp_, z2])
 ·rw [if_neg hv]
  exact mf1_ hL k' h3 t2 z2
theorem lj1_ : ∀ x ∈ ([(⟨#[48]⟩ : ByteArray), (⟨#[49]⟩ : ByteArray), (⟨#[49]⟩ : ByteArray), (⟨#[48]⟩ : ByteArray), (⟨#[63]⟩ : ByteArray)] : List ByteArray), x.size ≤ 1 := by decide
theorem ie1_ {L : List Int} (hL : L.length ≤ 600) : ∀ (d i k : Nat) (p : Int) (s : ByteArray), i + d = 74 → d < k → TA p → s.size ≤ i → ∃ t q, qb_.l0 k s (i : Int) L p = some (t, q) ∧ t.size ≤ 74 ∧ TA q := by
 intro d
 induction d with
 | zero =>
  intro i k p s hi hk hp hs
  obtain ⟨k, rfl⟩ : ∃ m, k = m + 1 := ⟨k - 1, Qa⟩
  simp only [qb_.l0]
  rw [if_neg Qa]
  exact ⟨_, _, rfl, Qa, hp⟩
 | succ d ih =>
  intro i k p s hi hk hp hs
  obtain ⟨k, rfl⟩ : ∃ m, k = m + 1 := ⟨k - 1, Qa⟩
  obtain ⟨u, q, e, u0, u1, hq⟩ := hm_ hL hp 5 Qa Qa
  have hz := qu_ _ u lj1_
  obtain ⟨t, q2, e2, h2, hq2⟩ := ih (i + 1) k q _ Qa Qa hq (show (s ++ rdOf ByteArray.empty ([(⟨#[48]⟩ : ByteArray), (⟨#[49]⟩ : ByteArray), (⟨#[49]⟩ : ByteArray), (⟨#[48]⟩ : ByteArray), (⟨#[63]⟩ : ByteArray)] : List ByteArray) u).size ≤ i + 1 by rw [ByteArray.size_append]; omega)
  simp only [qb_.l0]
  rw [if_pos Qa]
  simp only [Option.bind_some]
  rw [e]
  simp only [Option.bind_some]
  rw [if_pos u0, if_pos (by simpa using u1), if_pos Qa, show wrap64 ((i : Int) + 1) = ((i + 1 : Nat) : Int) from by unfold wrap64; omega, e2]
  exact ⟨_, _, rfl, h2, hq2⟩
theorem ph1_ {L : List Int} (hL : L.length ≤ 600) (k : Nat) (hk : 100 ≤ k) {p : Int} (hp : TA p) : ∃ t q, qb_.f k L p = some (t, q) ∧ t.size ≤ 74 ∧ TA q := by
 unfold qb_.f
 exact ie1_ hL 74 0 k p _ Qa Qa hp Qj
end Go.Proofs.YtpkhgapifnjbeaaGreatDoor.Pure
end
section
namespace Go.Proofs.YtpkhgapifnjbeaaGreatDoor.Pure
open RowKit Go.Lib Go.Lib.Hx T Zw.PrintWords Zw.PrintLast Zw.PrintMore G Rs
theorem up_l0 (xs : List ByteArray) (hx : xs.length = 3) : ∀ (d i k : Nat), i + d = 3 → 1200 + d < k → qi1_.l0 k xs (i : Int) = some true := by
 intro d
 induction d with
 | zero =>
  intro i k hi hk
  obtain ⟨k, rfl⟩ : ∃ m, k = m + 1 := ⟨k - 1, Qa⟩
  simp only [qi1_.l0]
  rw [if_neg Qa, kg1_]
  rfl
 | succ d ih =>
  intro i k hi hk
  obtain ⟨k, rfl⟩ : ∃ m, k = m + 1 := ⟨k - 1, Qa⟩
  simp only [qi1_.l0]
  rw [if_pos Qa, if_pos Qa, if_pos Qa, aq_, lw_ _ _ Qa]
  simp only [Option.bind_some]
  rw [if_pos trivial, if_pos trivial, show wrap64 ((i : Int) + 1) = ((i + 1 : Nat) : Int) from by unfold wrap64; omega]
  exact ih (i + 1) k Qa Qa
theorem ui1_ : qi1_.Pure := by
 intro l s _ _ _ _
 obtain ⟨K, hK⟩ : ∃ K, K = 1300 := ⟨_, rfl⟩
 refine ⟨K, ?_⟩
 obtain ⟨L, e0, hL, hp⟩ := hj1_ l
 obtain ⟨t1, q1, e1, _, h1⟩ := kt_ hL 12 Qa K Qa hp
 obtain ⟨t2, q2, e2, _, h2⟩ := ph1_ hL K Qa h1
 unfold qi1_.f
 rw [e0]
 simp only [Option.bind_some]
 rw [show (12 : Int) = ((12 : Nat) : Int) from rfl, e1]
 simp only [Option.bind_some]
 rw [e2]
 simp only [Option.bind_some]
 exact up_l0 _ rfl 3 0 K Qa Qa
end Go.Proofs.YtpkhgapifnjbeaaGreatDoor.Pure
end
section
namespace Go.Proofs.YtpkhgapifnjbeaaGreatDoor.stripUprights
open Go.ChangeShapes Go.WideShapes Go.ChangeAt RowKit
open Go.ChangeMaps (open_string shut_string)
theorem own : ownKnob Tryz.prog.godebug = none := by kernel_rfl
theorem laidOut : laidOutB Tryz.prog = true := by kernel_rfl
def cj1_ (k : IntKind) (w : World) (a : Option Addr) (len cap : Nat) (zs : List Int) : Prop :=
 (a = none ∧ len = 0 ∧ cap = 0 ∧ zs = []) ∨
 ∃ x, a = some x ∧ len ≤ cap ∧ cap ≤ maxLen ∧ zs.length = cap ∧ (∀ i, i < zs.length → w.cell? (x.add i) = some (.int k (zs.getD i 0))) ∧ ∀ n ∈ zs, (Lit.int k n).wf = true
set_option maxRecDepth 100000 in
theorem lifted (os : Os) (started : os.Started) (H : Type) (enc : TypeId × Value → H) :
  ReturnsInHanded {} Tryz.checked os 5 .any (fun w args => (Rows.stripUprightsSpec.pre enc Tryz.prog Tryz.f5 [] false w args ∧ laidMetH Tryz.prog Rows.stripUprightsRow.laid w) ∧ sizedMet enc Tryz.prog Tryz.f5 (OpenSpec.ofChange Rows.stripUprightsSpec) false w args) (Rows.stripUprightsSpec.post enc Tryz.prog Tryz.f5 false true false false) := by
 refine returnsInHanded_of_change_and (C := Tryz.checked) (X := (fun w _ => laidMetH Tryz.prog Rows.stripUprightsRow.laid w)) (fun _ _ _ hh h => h.of_heap hh) own started Qb Tryz.func5
  (ChangeSpec.witness_shaped (enc := enc) (C := Tryz.checked) (os := os) (X := (fun w _ => laidMetH Tryz.prog Rows.stripUprightsRow.laid w)) false (World.laidAll Tryz.prog os Rows.stripUprightsRow.laid) #[.slice none 0 0, .string ByteArray.empty] 8 (World.laidAll_os _ _ _)
   (World.shaped_of_ZipB Qb Qb) Qb Qb Qb
   (by rw [MakeChecks.laidMetH_plain _ _ _ Qb]; exact laidMet_laidAll _ Qb Qb)) ?_
 intro W base args ds gs before hval0 hW hcnd hsz0 hL _
 clear hL
 have hsz : (DataW.weightsEach Tryz.prog (Tryz.f5.params.toList ++ Rows.stripUprightsSpec.plain.varTypes Tryz.prog) (ds ++ gs)).all (· ≤ reachBytes) = true := hsz0
 have hval : ∀ (j : Nat) t v, Tryz.f5.params[j]? = some t → args[j]? = some v → Value.okWide Tryz.prog W .any base t v := hval0
 have hW' := hW
 obtain ⟨p, q, hA0, hV, rfl, hfz, hnd⟩ := hW
 have hA : DataW.TrodAll enc Tryz.prog W 0 (fun _ => true) true Tryz.f5.params.toList args.toList ds p := hA0
 rw [Tryz.params5] at hA hval hsz
 obtain ⟨v0, vs0, d0, ds0, p0, q0, hargs, rfl, rfl, h0, r0⟩ := trodAll_cons hA
 obtain ⟨v1, vs1, d1, ds1, p1, q1, rfl, rfl, rfl, h1, r1⟩ := trodAll_cons r0
 obtain ⟨rfl, rfl, rfl⟩ := trodAll_nil r1
 obtain rfl : args = #[v0, v1] := by cases args; simp_all
 obtain ⟨rfl, rfl⟩ := trodVars_none hV
 obtain ⟨a0, len0, cap0, rfl⟩ := okWide_slice Tryz.underlying22 (hval 0 22 v0 rfl rfl)
 have k0 := h0
 have lt0 : ∀ x ∈ p0, x.block < W.heap.size := by obtain ⟨m, hm⟩ := k0; exact DataW.trod_lt m _ _ _ hm
 obtain ⟨z0, w0⟩ : ∃ zs, cj1_ .i64 W a0 len0 cap0 zs := by
  obtain ⟨fuel, hf⟩ := h0
  rcases open_ints Tryz.underlying22 Tryz.underlying3 Qb hf with ⟨hcs, _⟩ | ⟨x, l, c, zs, hcs, _, hl, hm, hz, _, hcell, hwz⟩
  ·exact Qcc
  ·exact Qcd
 have y0 : len0 * 8 ≤ 140737488351232 := Go.Proofs.Zw.PrintWords.tz_ hsz (j := 0) (t := 22) rfl rfl Tryz.underlying22 Tryz.underlying3 Qb Qb h0
 obtain ⟨a1, rfl, rfl, rfl, y1⟩ := open_string Tryz.underlying9 (hval 1 9 v1 rfl rfl) h1
 have w1 : a1.size ≤ 140737488351232 := by
  have z := sized_string hsz (j := 1) (t := 9) rfl rfl
  rw [Array.length_toList] at z
  exact z
 clear hA0 hval0 hsz0 hsz
 refine (T.qi1_.walk Pure.ui1_ a0 len0 cap0 z0 a1 W w0 y0 w1).mono fun e W' ⟨he, bel⟩ => ?_
 subst he
 exact ⟨_, rfl, _, _, _, [], _, [], hW', trodAll_mk1 (shut_bool Tryz.underlying4 _), (trodAll_cons_mk (Below.trod laidOut Qb (of_decide_eq_true Qb) k0 bel lt0) (trodAll_cons_mk (shut_string Tryz.underlying9 y1) trodAll_mk0)), rfl, bel.frame _, fun h => by cases h⟩
theorem over : Rows.stripUprightsRow.holds Tryz.pinned (OpenSpec.ofChange Rows.stripUprightsSpec) :=
 OpenClaim.holds_of_wide 5 Tryz.f5 rfl rfl rfl rfl rfl rfl rfl ⟨rfl, rfl, rfl, rfl, rfl⟩ rfl rfl rfl rfl rfl Qb Tryz.func5 Qb
  (of_decide_eq_true Qb) (by unfold Func.isWrapper; first | (rw [if_pos X9]; kernel_rfl) | (rw [if_neg X9]; exact ⟨rfl, rfl⟩))
  (fun os started H enc _ => lifted os started H enc)
theorem card : Rows.StripUprightsCardSaid :=
 Claim7.holds_tied_plain_at .later [] [.data, .pinned] true (true, "7e6822926169cfe1c3a292a53cf000915babf8db10164626460e51774619d438") false over (fun _ h => by cases h) Qb (fun _ h => by cases h) stripUprights_row_tie rfl ⟨rfl, rfl⟩ Qb rfl
  (fun f fn hf hfn => by
   obtain rfl : f = 5 := Option.some.inj ((show Tryz.prog.funcNamed "awardingbody/awardingbodylaw19.StripUprights" = some 5 by kernel_rfl).symm.trans hf) |>.symm
   obtain rfl : fn = Tryz.f5 := (Option.some.inj (Tryz.func5.symm.trans hfn)).symm
   exact ⟨Qb, fun j t ht => by
    rw [Tryz.params5] at ht
    have hm : t ∈ [22, 9] := by simpa using Array.mem_of_getElem? ht
    have hall : ([22, 9].all fun u => !Tryz.prog.wantsStandIn u) = true := by kernel_rfl
    exact (show Tryz.prog.wantsStandIn t = false by simpa using List.all_eq_true.1 hall t hm)⟩)
  Qb
end Go.Proofs.YtpkhgapifnjbeaaGreatDoor.stripUprights
namespace Go.Proofs.YtpkhgapifnjbeaaGreatDoor
theorem stripUprights_card_holds : Rows.StripUprightsCardSaid := stripUprights.card
end Go.Proofs.YtpkhgapifnjbeaaGreatDoor
end
