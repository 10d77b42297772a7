/- Put together by pack2.py. -/
import Derived.Test.YtpkhgapifnjbeaaGreatDoorRows
import Derived.Lay
import Derived.LaidOnce
import Derived.SevenTiedAt
import Derived.Test.YtpkhgapifnjbeaaGreatDoorTie
import Derived.Test.YtpkhgapifnjbeaaGreatDoorCards
import Derived.WalkKit
import Derived.ProofKit
import Derived.OpenShut
import Derived.ShutString
import Derived.ChangeOld
import Derived.Below
import Derived.SizedLaws
import Derived.Test.YtpkhgapifnjbeaaGreatDoorTa1
set_option linter.unusedVariables false
set_option linter.unusedSimpArgs false
section
namespace Go.Proofs.YtpkhgapifnjbeaaGreatDoor.TL
open RowKit G Rs Zw.PrintWords Zw.PrintLast Zw.PrintMore
attribute [local go_sem] pd_ rd_ yd_ zd_ dd_ ed_ qd_ sd_
def kb_.j0 : Nat → ByteArray → Int → Int → Bool → Option (ByteArray)
 | 0, _, _, _, _ => none
 | k + 1, x0, x1, x2, x15 => if x15 = true then (some x0) else (if 0 ≤ x1 then (if x1 < (x0.size : Int) then (if (bt x0 x1) = 48 then (if x2 = 1 then (if x1 ≤ (x0.size : Int) then (if (x0.extract 0 (x1 : Int).toNat).size + 1 ≤ 9223372036854775807 then (if 0 ≤ (wrap64 (x1 + 1)) then (if (wrap64 (x1 + 1)) ≤ (x0.size : Int) then (if ((x0.extract 0 (x1 : Int).toNat) ++ (⟨#[63]⟩ : ByteArray)).size + (x0.extract ((wrap64 (x1 + 1)) : Int).toNat x0.size).size ≤ 9223372036854775807 then (some (((x0.extract 0 (x1 : Int).toNat) ++ (⟨#[63]⟩ : ByteArray)) ++ (x0.extract ((wrap64 (x1 + 1)) : Int).toNat x0.size))) else (none)) else (none)) else (none)) else (none)) else (none)) else (if x1 ≤ (x0.size : Int) then (if (x0.extract 0 (x1 : Int).toNat).size + 1 ≤ 9223372036854775807 then (if 0 ≤ (wrap64 (x1 + 1)) then (if (wrap64 (x1 + 1)) ≤ (x0.size : Int) then (if ((x0.extract 0 (x1 : Int).toNat) ++ (⟨#[49]⟩ : ByteArray)).size + (x0.extract ((wrap64 (x1 + 1)) : Int).toNat x0.size).size ≤ 9223372036854775807 then (some (((x0.extract 0 (x1 : Int).toNat) ++ (⟨#[49]⟩ : ByteArray)) ++ (x0.extract ((wrap64 (x1 + 1)) : Int).toNat x0.size))) else (none)) else (none)) else (none)) else (none)) else (none))) else (if x2 = 1 then (if x1 ≤ (x0.size : Int) then (if (x0.extract 0 (x1 : Int).toNat).size + 1 ≤ 9223372036854775807 then (if 0 ≤ (wrap64 (x1 + 1)) then (if (wrap64 (x1 + 1)) ≤ (x0.size : Int) then (if ((x0.extract 0 (x1 : Int).toNat) ++ (⟨#[63]⟩ : ByteArray)).size + (x0.extract ((wrap64 (x1 + 1)) : Int).toNat x0.size).size ≤ 9223372036854775807 then (some (((x0.extract 0 (x1 : Int).toNat) ++ (⟨#[63]⟩ : ByteArray)) ++ (x0.extract ((wrap64 (x1 + 1)) : Int).toNat x0.size))) else (none)) else (none)) else (none)) else (none)) else (none)) else (if x1 ≤ (x0.size : Int) then (if (x0.extract 0 (x1 : Int).toNat).size + 1 ≤ 9223372036854775807 then (if 0 ≤ (wrap64 (x1 + 1)) then (if (wrap64 (x1 + 1)) ≤ (x0.size : Int) then (if ((x0.extract 0 (x1 : Int).toNat) ++ (⟨#[48]⟩ : ByteArray)).size + (x0.extract ((wrap64 (x1 + 1)) : Int).toNat x0.size).size ≤ 9223372036854775807 then (some (((x0.extract 0 (x1 : Int).toNat) ++ (⟨#[48]⟩ : ByteArray)) ++ (x0.extract ((wrap64 (x1 + 1)) : Int).toNat x0.size))) else (none)) else (none)) else (none)) else (none)) else (none)))) else (none)) else (none))
def kb_.f (k : Nat) (a0 : ByteArray) (a1 : Int) (a2 : Int) : Option (ByteArray) := if a1 < 0 then (kb_.j0 k a0 a1 a2 true) else (kb_.j0 k a0 a1 a2 (decide (a1 ≥ (a0.size : Int))))
theorem kb_.nd_ : ∀ k, (∀ y0 y1 y2 y3, LeO (kb_.j0 k y0 y1 y2 y3) (kb_.j0 (k + 1) y0 y1 y2 y3))
 | 0 => fun _ _ _ _ r h => by simp [kb_.j0] at h
 | k + 1 => by
  have ih0 := kb_.nd_ k
  intro y0 y1 y2 y3
  unfold kb_.j0
  exact Qr
theorem kb_.mono : ∀ a0 a1 a2 k, LeO (kb_.f k a0 a1 a2) (kb_.f (k + 1) a0 a1 a2) := by
 intro a0 a1 a2 k
 have ih0 := kb_.nd_ k
 unfold kb_.f
 exact Qr
set_option maxHeartbeats 8000000 in
set_option maxRecDepth 100000 in
theorem kb_.calls (k : Nat) (a0 : ByteArray) (a1 : Int) (a2 : Int) (r : ByteArray) (w : World) (h : kb_.f k a0 a1 a2 = some r) :
  Calls Tryz.prog 48 #[.string a0, .int .i64 a1, .int .i64 a2] w fun e w' => e = .returned (.string r) ∧ vb_ w w' := by
 have H : (if a1 < 0 then (kb_.j0 k a0 a1 a2 true) else (kb_.j0 k a0 a1 a2 (decide (a1 ≥ (a0.size : Int))))) = some r := h
 clear h
 have HC4 := ba_.mk H
 clear H
 go_enter Tryz.func48, Tryz.ntmps48
 go_upto_region 1 with (fail)
 repeat (go_quiet (fail); go_upto_region 1 with (fail))
 go_cut [15] (fun v15 wc => ∃ (kq : Nat) (x15_3 : Bool), v15 = .bool x15_3 ∧ ba_ (kb_.j0 kq a0 a1 a2 x15_3 = some r) ∧ ba_ (kq ≤ k) ∧ vb_ w wc)
 case first =>
  have H := HC4.out
  clear HC4
  by_cases c5 : a1 < 0
  ·rw [if_pos c5] at H
   have c5b0 := decide_eq_true c5
   clear c5
   (first | rw [c5b0] | (simp only [yb_, ac_]; rw [c5b0]) | skip)
   have H' := ba_.mk H
   clear H
   go_wp2
   repeat (go_quiet (fail); try go_wp2)
   go_meet
   case rel => exact Yk
  rw [if_neg c5] at H
  have c5b0 := decide_eq_false c5
  clear c5
  (first | rw [c5b0] | (simp only [yb_, ac_]; rw [c5b0]) | skip)
  have H' := ba_.mk H
  clear H
  go_wp2
  repeat (go_quiet (fail); try go_wp2)
  go_meet
  case rel => exact ⟨_, (decide (a1 ≥ (a0.size : Int))), Ql, H', ⟨Xu⟩, Qx⟩
 case rest =>
  clear HC4
  try clear p2
  try clear c4
  try clear c5
  try clear c5b0
  obtain ⟨kq, x15_3, rfl, HA, HJ3, ⟨mc3, rfl⟩⟩ := hcut
  cases kq with
  | zero => exact absurd HA.out (by simp [kb_.j0])
  | succ kj3 =>
   have H := HA.out
   clear HA
   simp only [kb_.j0] at H
   by_cases c6 : x15_3 = true
   ·subst c6
    have H1 : (some a0) = some r := by rw [if_pos rfl] at H; exact H
    clear H
    have H := H1
    clear H1
    obtain rfl := Option.some.inj H
    go_wp2
    repeat (go_quiet (fail); try go_wp2)
    go_ret
    exact ⟨Ql, Qx⟩
   replace c6 := Bool.eq_false_iff.mpr c6
   subst c6
   have H1 : (if 0 ≤ a1 then (if a1 < (a0.size : Int) then (if (bt a0 a1) = 48 then (if a2 = 1 then (if a1 ≤ (a0.size : Int) then (if (a0.extract 0 (a1 : Int).toNat).size + 1 ≤ 9223372036854775807 then (if 0 ≤ (wrap64 (a1 + 1)) then (if (wrap64 (a1 + 1)) ≤ (a0.size : Int) then (if ((a0.extract 0 (a1 : Int).toNat) ++ (⟨#[63]⟩ : ByteArray)).size + (a0.extract ((wrap64 (a1 + 1)) : Int).toNat a0.size).size ≤ 9223372036854775807 then (some (((a0.extract 0 (a1 : Int).toNat) ++ (⟨#[63]⟩ : ByteArray)) ++ (a0.extract ((wrap64 (a1 + 1)) : Int).toNat a0.size))) else (none)) else (none)) else (none)) else (none)) else (none)) else (if a1 ≤ (a0.size : Int) then (if (a0.extract 0 (a1 : Int).toNat).size + 1 ≤ 9223372036854775807 then (if 0 ≤ (wrap64 (a1 + 1)) then (if (wrap64 (a1 + 1)) ≤ (a0.size : Int) then (if ((a0.extract 0 (a1 : Int).toNat) ++ (⟨#[49]⟩ : ByteArray)).size + (a0.extract ((wrap64 (a1 + 1)) : Int).toNat a0.size).size ≤ 9223372036854775807 then (some (((a0.extract 0 (a1 : Int).toNat) ++ (⟨#[49]⟩ : ByteArray)) ++ (a0.extract ((wrap64 (a1 + 1)) : Int).toNat a0.size))) else (none)) else (none)) else (none)) else (none)) else (none))) else (if a2 = 1 then (if a1 ≤ (a0.size : Int) then (if (a0.extract 0 (a1 : Int).toNat).size + 1 ≤ 9223372036854775807 then (if 0 ≤ (wrap64 (a1 + 1)) then (if (wrap64 (a1 + 1)) ≤ (a0.size : Int) then (if ((a0.extract 0 (a1 : Int).toNat) ++ (⟨#[63]⟩ : ByteArray)).size + (a0.extract ((wrap64 (a1 + 1)) : Int).toNat a0.size).size ≤ 9223372036854775807 then (some (((a0.extract 0 (a1 : Int).toNat) ++ (⟨#[63]⟩ : ByteArray)) ++ (a0.extract ((wrap64 (a1 + 1)) : Int).toNat a0.size))) else (none)) else (none)) else (none)) else (none)) else (none)) else (if a1 ≤ (a0.size : Int) then (if (a0.extract 0 (a1 : Int).toNat).size + 1 ≤ 9223372036854775807 then (if 0 ≤ (wrap64 (a1 + 1)) then (if (wrap64 (a1 + 1)) ≤ (a0.size : Int) then (if ((a0.extract 0 (a1 : Int).toNat) ++ (⟨#[48]⟩ : ByteArray)).size + (a0.extract ((wrap64 (a1 + 1)) : Int).toNat a0.size).size ≤ 9223372036854775807 then (some (((a0.extract 0 (a1 : Int).toNat) ++ (⟨#[48]⟩ : ByteArray)) ++ (a0.extract ((wrap64 (a1 + 1)) : Int).toNat a0.size))) else (none)) else (none)) else (none)) else (none)) else (none)))) else (none)) else (none)) = some r := by rw [if_neg (show ¬ (false = true) by decide)] at H; exact H
   clear H
   have H := H1
   clear H1
   obtain ⟨c7, H⟩ := Qq H
   have c7b0 := decide_eq_true c7
   clear c7
   obtain ⟨c8, H⟩ := Qq H
   have c8b0 := decide_eq_true c8
   clear c8
   by_cases c10 : (bt a0 a1) = 48
   ·rw [if_pos c10] at H
    have c10b0 : ((bt a0 a1) == 48) = true := beq_iff_eq.mpr c10
    have c10b1 : ((bt a0 a1) != 48) = false := bne_eq_false_iff_eq.mpr c10
    clear c10
    by_cases c11 : a2 = 1
    ·rw [if_pos c11] at H
     have c11b0 : (a2 == 1) = true := beq_iff_eq.mpr c11
     have c11b1 : (a2 != 1) = false := bne_eq_false_iff_eq.mpr c11
     clear c11
     have c12b0 := eq_true (of_decide_eq_true Qi : 0 ≤ a1)
     obtain ⟨c13, H⟩ := Qq H
     have c13b0 := eq_true c13
     have c13b1 := decide_eq_true c13
     clear c13
     obtain ⟨c14, H⟩ := Qq H
     have c14b0 := eq_true c14
     have c14b1 := decide_eq_true c14
     try have c14b2 : (9223372036854775807 < (a0.extract 0 (a1 : Int).toNat).size + 1) = False := eq_false (Nat.not_lt.2 c14)
     obtain ⟨ji15, hji15⟩ : ∃ j_ : Int, (wrap64 (a1 + 1)) = j_ := ⟨_, rfl⟩
     replace H : (if 0 ≤ (ji15) then (if (ji15) ≤ (a0.size : Int) then (if ((a0.extract 0 (a1 : Int).toNat) ++ (⟨#[63]⟩ : ByteArray)).size + (a0.extract ((ji15) : Int).toNat a0.size).size ≤ 9223372036854775807 then (some (((a0.extract 0 (a1 : Int).toNat) ++ (⟨#[63]⟩ : ByteArray)) ++ (a0.extract ((ji15) : Int).toNat a0.size))) else (none)) else (none)) else (none)) = some r := by first | (rw [hji15] at H; exact H) | (simp only [hji15] at H ⊢; exact H)
     have hji15w : (IntKind.i64.wrap (a1 + 1)) = ji15 := (yb_ _).trans hji15
     obtain ⟨c16, H⟩ := Qq H
     have c16b0 := eq_true c16
     have c16b1 := decide_eq_true c16
     clear c16
     obtain ⟨c17, H⟩ := Qq H
     have c17b0 := eq_true c17
     have c17b1 := decide_eq_true c17
     clear c17
     obtain ⟨c18, H⟩ := Qq H
     have c18b0 := eq_true c18
     have c18b1 := decide_eq_true c18
     try have c18b2 : (9223372036854775807 < ((a0.extract 0 (a1 : Int).toNat) ++ (⟨#[63]⟩ : ByteArray)).size + (a0.extract ((ji15) : Int).toNat a0.size).size) = False := eq_false (Nat.not_lt.2 c18)
     obtain rfl := Option.some.inj H
     have p9 : 0 ≤ (a1 : Int) := of_decide_eq_true Qi
     have q9 : a1 < (a0.size : Int) := of_decide_eq_true Qi
     have hx9 := yb1_ a0 a1
     replace p9 := eq_true p9
     replace q9 := eq_true q9
     have h0_ : a1.toNat < a0.size := by have h1_ := of_eq_true (by assumption : (a1 < (a0.size : Int)) = True); have h2_ := of_eq_true (by assumption : (0 ≤ (a1 : Int)) = True); omega
     have h1_ : (⟨#[63]⟩ : ByteArray).size = 1 := rfl
     have n1_ : (9223372036854775807 < a1.toNat + 1) = False := eq_false (by have h_ := c14; simp only [ByteArray.size_extract] at h_; omega)
     have n2_ : (9223372036854775807 < a1.toNat + 1 + (a0.size - ji15.toNat)) = False := eq_false (by have h_ := c18; simp only [ByteArray.size_append, ByteArray.size_extract] at h_; omega)
     clear h0_ h1_
     go_wp2
     repeat (go_quiet (fail); try go_wp2)
     go_ret
     exact ⟨by first | rfl | (simp; done) | (simp only [← hji15] <;> (first | rfl | simp)) | (simp [*]; done), Qx⟩
    rw [if_neg c11] at H
    have c11b0 : (a2 == 1) = false := beq_eq_false_iff_ne.mpr c11
    have c11b1 : (a2 != 1) = true := bne_iff_ne.mpr c11
    have c19b0 := eq_true (of_decide_eq_true Qi : 0 ≤ a1)
    by_cases c20 : a1 ≤ (a0.size : Int)
    rotate_left
    ·rw [if_neg c20] at H
     exact absurd H Qj
    rw [if_pos c20] at H
    have c20b0 := eq_true c20
    have c20b1 := decide_eq_true c20
    clear c20
    by_cases c21 : (a0.extract 0 (a1 : Int).toNat).size + 1 ≤ 9223372036854775807
    rotate_left
    ·rw [if_neg c21] at H
     exact absurd H Qj
    rw [if_pos c21] at H
    have c21b0 := eq_true c21
    have c21b1 := decide_eq_true c21
    try have c21b2 : (9223372036854775807 < (a0.extract 0 (a1 : Int).toNat).size + 1) = False := eq_false (Nat.not_lt.2 c21)
    obtain ⟨ji22, hji22⟩ : ∃ j_ : Int, (wrap64 (a1 + 1)) = j_ := ⟨_, rfl⟩
    replace H : (if 0 ≤ (ji22) then (if (ji22) ≤ (a0.size : Int) then (if ((a0.extract 0 (a1 : Int).toNat) ++ (⟨#[49]⟩ : ByteArray)).size + (a0.extract ((ji22) : Int).toNat a0.size).size ≤ 9223372036854775807 then (some (((a0.extract 0 (a1 : Int).toNat) ++ (⟨#[49]⟩ : ByteArray)) ++ (a0.extract ((ji22) : Int).toNat a0.size))) else (none)) else (none)) else (none)) = some r := by first | (rw [hji22] at H; exact H) | (simp only [hji22] at H ⊢; exact H)
    have hji22w : (IntKind.i64.wrap (a1 + 1)) = ji22 := (yb_ _).trans hji22
    by_cases c23 : 0 ≤ (ji22)
    rotate_left
    ·rw [if_neg c23] at H
     exact absurd H Qj
    rw [if_pos c23] at H
    have c23b0 := eq_true c23
    have c23b1 := decide_eq_true c23
    clear c23
    by_cases c24 : (ji22) ≤ (a0.size : Int)
    rotate_left
    ·rw [if_neg c24] at H
     exact absurd H Qj
    rw [if_pos c24] at H
    have c24b0 := eq_true c24
    have c24b1 := decide_eq_true c24
    clear c24
    by_cases c25 : ((a0.extract 0 (a1 : Int).toNat) ++ (⟨#[49]⟩ : ByteArray)).size + (a0.extract ((ji22) : Int).toNat a0.size).size ≤ 9223372036854775807
    rotate_left
    ·rw [if_neg c25] at H
     exact absurd H Qj
    rw [if_pos c25] at H
    have c25b0 := eq_true c25
    have c25b1 := decide_eq_true c25
    try have c25b2 : (9223372036854775807 < ((a0.extract 0 (a1 : Int).toNat) ++ (⟨#[49]⟩ : ByteArray)).size + (a0.extract ((ji22) : Int).toNat a0.size).size) = False := eq_false (Nat.not_lt.2 c25)
    obtain rfl := Option.some.inj H
    have p9 : 0 ≤ (a1 : Int) := of_decide_eq_true Qi
    have q9 : a1 < (a0.size : Int) := of_decide_eq_true Qi
    have hx9 := yb1_ a0 a1
    replace p9 := eq_true p9
    replace q9 := eq_true q9
    have h0_ : a1.toNat < a0.size := by have h1_ := of_eq_true (by assumption : (a1 < (a0.size : Int)) = True); have h2_ := of_eq_true (by assumption : (0 ≤ (a1 : Int)) = True); omega
    have h1_ : (⟨#[49]⟩ : ByteArray).size = 1 := rfl
    have n1_ : (9223372036854775807 < a1.toNat + 1) = False := eq_false (by have h_ := c21; simp only [ByteArray.size_extract] at h_; omega)
    have n2_ : (9223372036854775807 < a1.toNat + 1 + (a0.size - ji22.toNat)) = False := eq_false (by have h_ := c25; simp only [ByteArray.size_append, ByteArray.size_extract] at h_; omega)
    clear h0_ h1_
    go_wp2
    repeat (go_quiet (fail); try go_wp2)
    go_ret
    exact ⟨by first | rfl | (simp; done) | (simp only [← hji22] <;> (first | rfl | simp)) | (simp [*]; done), Qx⟩
   rw [if_neg c10] at H
   have c10b0 : ((bt a0 a1) == 48) = false := beq_eq_false_iff_ne.mpr c10
   have c10b1 : ((bt a0 a1) != 48) = true := bne_iff_ne.mpr c10
   by_cases c26 : a2 = 1
   ·rw [if_pos c26] at H
    have c26b0 : (a2 == 1) = true := beq_iff_eq.mpr c26
    have c26b1 : (a2 != 1) = false := bne_eq_false_iff_eq.mpr c26
    clear c26
    have c27b0 := eq_true (of_decide_eq_true Qi : 0 ≤ a1)
    by_cases c28 : a1 ≤ (a0.size : Int)
    rotate_left
    ·rw [if_neg c28] at H
     exact absurd H Qj
    rw [if_pos c28] at H
    have c28b0 := eq_true c28
    have c28b1 := decide_eq_true c28
    clear c28
    by_cases c29 : (a0.extract 0 (a1 : Int).toNat).size + 1 ≤ 9223372036854775807
    rotate_left
    ·rw [if_neg c29] at H
     exact absurd H Qj
    rw [if_pos c29] at H
    have c29b0 := eq_true c29
    have c29b1 := decide_eq_true c29
    try have c29b2 : (9223372036854775807 < (a0.extract 0 (a1 : Int).toNat).size + 1) = False := eq_false (Nat.not_lt.2 c29)
    obtain ⟨ji30, hji30⟩ : ∃ j_ : Int, (wrap64 (a1 + 1)) = j_ := ⟨_, rfl⟩
    replace H : (if 0 ≤ (ji30) then (if (ji30) ≤ (a0.size : Int) then (if ((a0.extract 0 (a1 : Int).toNat) ++ (⟨#[63]⟩ : ByteArray)).size + (a0.extract ((ji30) : Int).toNat a0.size).size ≤ 9223372036854775807 then (some (((a0.extract 0 (a1 : Int).toNat) ++ (⟨#[63]⟩ : ByteArray)) ++ (a0.extract ((ji30) : Int).toNat a0.size))) else (none)) else (none)) else (none)) = some r := by first | (rw [hji30] at H; exact H) | (simp only [hji30] at H ⊢; exact H)
    have hji30w : (IntKind.i64.wrap (a1 + 1)) = ji30 := (yb_ _).trans hji30
    by_cases c31 : 0 ≤ (ji30)
    rotate_left
    ·rw [if_neg c31] at H
     exact absurd H Qj
    rw [if_pos c31] at H
    have c31b0 := eq_true c31
    have c31b1 := decide_eq_true c31
    clear c31
    obtain ⟨c32, H⟩ := Qq H
    have c32b0 := eq_true c32
    have c32b1 := decide_eq_true c32
    clear c32
    obtain ⟨c33, H⟩ := Qq H
    have c33b0 := eq_true c33
    have c33b1 := decide_eq_true c33
    try have c33b2 : (9223372036854775807 < ((a0.extract 0 (a1 : Int).toNat) ++ (⟨#[63]⟩ : ByteArray)).size + (a0.extract ((ji30) : Int).toNat a0.size).size) = False := eq_false (Nat.not_lt.2 c33)
    obtain rfl := Option.some.inj H
    have p9 : 0 ≤ (a1 : Int) := of_decide_eq_true Qi
    have q9 : a1 < (a0.size : Int) := of_decide_eq_true Qi
    have hx9 := yb1_ a0 a1
    replace p9 := eq_true p9
    replace q9 := eq_true q9
    have h0_ : a1.toNat < a0.size := by have h1_ := of_eq_true (by assumption : (a1 < (a0.size : Int)) = True); have h2_ := of_eq_true (by assumption : (0 ≤ (a1 : Int)) = True); omega
    have h1_ : (⟨#[63]⟩ : ByteArray).size = 1 := rfl
    have n1_ : (9223372036854775807 < a1.toNat + 1) = False := eq_false (by have h_ := c29; simp only [ByteArray.size_extract] at h_; omega)
    have n2_ : (9223372036854775807 < a1.toNat + 1 + (a0.size - ji30.toNat)) = False := eq_false (by have h_ := c33; simp only [ByteArray.size_append, ByteArray.size_extract] at h_; omega)
    clear h0_ h1_
    go_wp2
    repeat (go_quiet (fail); try go_wp2)
    go_ret
    exact ⟨by first | rfl | (simp; done) | (simp only [← hji30] <;> (first | rfl | simp)) | (simp [*]; done), Qx⟩
   rw [if_neg c26] at H
   have c26b0 : (a2 == 1) = false := beq_eq_false_iff_ne.mpr c26
   have c26b1 : (a2 != 1) = true := bne_iff_ne.mpr c26
   have c34b0 := eq_true (of_decide_eq_true Qi : 0 ≤ a1)
   by_cases c35 : a1 ≤ (a0.size : Int)
   rotate_left
   ·rw [if_neg c35] at H
    exact absurd H Qj
   rw [if_pos c35] at H
   have c35b0 := eq_true c35
   have c35b1 := decide_eq_true c35
   clear c35
   by_cases c36 : (a0.extract 0 (a1 : Int).toNat).size + 1 ≤ 9223372036854775807
   rotate_left
   ·rw [if_neg c36] at H
    exact absurd H Qj
   rw [if_pos c36] at H
   have c36b0 := eq_true c36
   have c36b1 := decide_eq_true c36
   try have c36b2 : (9223372036854775807 < (a0.extract 0 (a1 : Int).toNat).size + 1) = False := eq_false (Nat.not_lt.2 c36)
   obtain ⟨ji37, hji37⟩ : ∃ j_ : Int, (wrap64 (a1 + 1)) = j_ := ⟨_, rfl⟩
   replace H : (if 0 ≤ (ji37) then (if (ji37) ≤ (a0.size : Int) then (if ((a0.extract 0 (a1 : Int).toNat) ++ (⟨#[48]⟩ : ByteArray)).size + (a0.extract ((ji37) : Int).toNat a0.size).size ≤ 9223372036854775807 then (some (((a0.extract 0 (a1 : Int).toNat) ++ (⟨#[48]⟩ : ByteArray)) ++ (a0.extract ((ji37) : Int).toNat a0.size))) else (none)) else (none)) else (none)) = some r := by first | (rw [hji37] at H; exact H) | (simp only [hji37] at H ⊢; exact H)
   have hji37w : (IntKind.i64.wrap (a1 + 1)) = ji37 := (yb_ _).trans hji37
   obtain ⟨c38, H⟩ := Qq H
   have c38b0 := eq_true c38
   have c38b1 := decide_eq_true c38
   clear c38
   by_cases c39 : (ji37) ≤ (a0.size : Int)
   rotate_left
   ·rw [if_neg c39] at H
    exact absurd H Qj
   rw [if_pos c39] at H
   have c39b0 := eq_true c39
   have c39b1 := decide_eq_true c39
   clear c39
   by_cases c40 : ((a0.extract 0 (a1 : Int).toNat) ++ (⟨#[48]⟩ : ByteArray)).size + (a0.extract ((ji37) : Int).toNat a0.size).size ≤ 9223372036854775807
   rotate_left
   ·rw [if_neg c40] at H
    exact absurd H Qj
   rw [if_pos c40] at H
   have c40b0 := eq_true c40
   have c40b1 := decide_eq_true c40
   try have c40b2 : (9223372036854775807 < ((a0.extract 0 (a1 : Int).toNat) ++ (⟨#[48]⟩ : ByteArray)).size + (a0.extract ((ji37) : Int).toNat a0.size).size) = False := eq_false (Nat.not_lt.2 c40)
   obtain rfl := Option.some.inj H
   have p9 : 0 ≤ (a1 : Int) := of_decide_eq_true Qi
   have q9 : a1 < (a0.size : Int) := of_decide_eq_true Qi
   have hx9 := yb1_ a0 a1
   replace p9 := eq_true p9
   replace q9 := eq_true q9
   have h0_ : a1.toNat < a0.size := by have h1_ := of_eq_true (by assumption : (a1 < (a0.size : Int)) = True); have h2_ := of_eq_true (by assumption : (0 ≤ (a1 : Int)) = True); omega
   have h1_ : (⟨#[48]⟩ : ByteArray).size = 1 := rfl
   have n1_ : (9223372036854775807 < a1.toNat + 1) = False := eq_false (by have h_ := c36; simp only [ByteArray.size_extract] at h_; omega)
   have n2_ : (9223372036854775807 < a1.toNat + 1 + (a0.size - ji37.toNat)) = False := eq_false (by have h_ := c40; simp only [ByteArray.size_append, ByteArray.size_extract] at h_; omega)
   clear h0_ h1_
   go_wp2
   repeat (go_quiet (fail); try go_wp2)
   go_ret
   exact ⟨by first | rfl | (simp; done) | (simp only [← hji37] <;> (first | rfl | simp)) | (simp [*]; done), Qx⟩
def rb_.l0 : Nat → Int → List Int → Int → List Int → Int → Option (List Int × Int)
 | 0, _, _, _, _, _ => none
 | k + 1, x1, x5, x6, x1000, x1001 => if x6 < x1 then ((oa_.f x1000 x1001 (wrap64 (x6 + 1))).bind fun bt310 => (if 0 ≤ bt310.1 then (if bt310.1 ≤ (x5.length : Int) then ((some (x5.take (bt310.1 : Int).toNat : List Int)).bind fun y312 => (if ([] : List Int).length + y312.length < 17592186044416 then ((some (([] : List Int) ++ y312 : List Int)).bind fun y316 => (if y316.length < 17592186044416 then ((some (y316 ++ [x6] : List Int)).bind fun y319 => ((some (x5.drop (bt310.1 : Int).toNat : List Int)).bind fun y322 => (if y319.length + y322.length < 17592186044416 then (rb_.l0 k x1 (y319 ++ y322) (wrap64 (x6 + 1)) x1000 bt310.2) else (none)))) else (none))) else (none))) else (none)) else (none))) else (some (x5, x1001))
def rb_.f (k : Nat) (s0_0 : List Int) (s0_1 : Int) (a1 : Int) : Option (List Int × Int) := rb_.l0 k a1 ([] : List Int) 0 s0_0 s0_1
theorem rb_.nd_ : ∀ k, (∀ y0 y1 y2 y3 y4, LeO (rb_.l0 k y0 y1 y2 y3 y4) (rb_.l0 (k + 1) y0 y1 y2 y3 y4))
 | 0 => fun _ _ _ _ _ r h => by simp [rb_.l0] at h
 | k + 1 => by
  have ih0 := rb_.nd_ k
  intro y0 y1 y2 y3 y4
  unfold rb_.l0
  exact Qr
theorem rb_.mono : ∀ a0 a1 a2 k, LeO (rb_.f k a0 a1 a2) (rb_.f (k + 1) a0 a1 a2) := by
 intro a0 a1 a2 k
 have ih0 := rb_.nd_ k
 unfold rb_.f
 exact Qr
set_option maxHeartbeats 8000000 in
set_option maxRecDepth 100000 in
theorem rb_.calls (k : Nat) (g : Nat) (s0_0 : List Int) (s0_1 : Int) (a1 : Int) (r1 : List Int) (r2 : Int) (w0 w : World) (hI : ga_ w0 w g s0_0 s0_1) (hB : Below w0.heap.size w0 w) (h : rb_.f k s0_0 s0_1 a1 = some (r1, r2)) :
  Calls Tryz.prog 49 #[.pointer (some ⟨g, 0, none⟩), .int .i64 a1] w fun e w' => ∃ v0_ : Value, e = .returned (v0_) ∧ Kd.R (Kd.int .i64) 3 w' w.heap.size (fun _ => True) v0_ r1 ∧ ga_ w0 w' g s0_0 r2 ∧ Below w0.heap.size w0 w' ∧ ra_ w w' g none := by
 have HI0 := ba_.mk hI
 have HK := ba_.mk (ra_.refl w g none)
 have HL := ba_.mk hB.size
 clear hI
 have HW0 := ba_.mk hB.size
 have HB := ba_.mk hB
 clear hB
 have H : (rb_.l0 k a1 ([] : List Int) 0 s0_0 s0_1) = some (r1, r2) := h
 clear h
 have H' := ba_.mk H
 clear H
 go_enter Tryz.func49, Tryz.ntmps49
 go_wp2
 go_loopg [5, 6] k (fun kq v5 v6 w' => ∃ (x5_1 : List Int) (x6_1 : Int) (x1001_1 : Int), v6 = .int .i64 x6_1 ∧ ba_ (rb_.l0 kq a1 x5_1 x6_1 s0_0 x1001_1 = some (r1, r2)) ∧ ba_ (kq ≤ k) ∧ ba_ (Kd.R (Kd.int .i64) 3 w' w.heap.size (fun _ => True) v5 x5_1) ∧ ba_ (ga_ w0 w' g s0_0 x1001_1) ∧ ba_ (ra_ w w' g none) ∧ ba_ (Below w0.heap.size w0 w'))
 case atStart => exact ⟨(([] : List Int)), (0), (s0_1), Ql, H', ⟨Nat.le_refl _⟩, ⟨Q9⟩, ⟨Q2⟩, ⟨Qw⟩, ⟨Q3⟩⟩
 case round =>
  clear H'
  try clear p2
  obtain ⟨x5_1, x6_1, x1001_1, rfl, HA, HK1, HO_5, HI0, HK, HB⟩ := hrel
  cases gk with
  | zero => exact absurd HA.out (by simp [rb_.l0])
  | succ k1 =>
   have H := HA.out
   clear HA
   simp only [rb_.l0] at H
   by_cases c3 : x6_1 < a1
   rotate_left
   ·rw [if_neg c3] at H
    have c3b0 := decide_eq_false c3
    clear c3
    simp only [Option.some.injEq, Prod.mk.injEq] at H
    obtain ⟨rfl, rfl⟩ := H
    go_wp2
    go_ret
    exact ⟨_, Qu, by (with_reducible repeat (first | apply Kd.bb_ | apply Kd.cb_ | apply Kd.sb_)); exact HO_5.out, Q2, Q3, Qw⟩
   rw [if_pos c3] at H
   have c3b0 := decide_eq_true c3
   clear c3
   obtain ⟨⟨t310, t311⟩, A4, H⟩ := Qo H
   try dsimp only at H
   obtain ⟨c5, H⟩ := Qq H
   have c5b0 := eq_true c5
   have c5b1 := decide_eq_true c5
   clear c5
   obtain ⟨c6, H⟩ := Qq H
   have c6b0 := eq_true c6
   have c6b1 := decide_eq_true c6
   clear c6
   obtain ⟨y312, hy312⟩ : ∃ y_ : List Int, y_ = (x5_1.take (t310 : Int).toNat) := ⟨_, rfl⟩
   replace H : (if ([] : List Int).length + y312.length < 17592186044416 then ((some (([] : List Int) ++ y312 : List Int)).bind fun y316 => (if y316.length < 17592186044416 then ((some (y316 ++ [x6_1] : List Int)).bind fun y319 => ((some (x5_1.drop (t310 : Int).toNat : List Int)).bind fun y322 => (if y319.length + y322.length < 17592186044416 then (rb_.l0 k1 a1 (y319 ++ y322) (wrap64 (x6_1 + 1)) s0_0 t311) else (none)))) else (none))) else (none)) = some (r1, r2) := by first | (rw [hy312]; with_reducible exact H) | (have H2_ := (Option.bind_some _ _).symm.trans H; rw [hy312]; with_reducible exact H2_) | (have H2_ := (Option.bind_some _ _).symm.trans H; with_reducible exact H2_) | with_reducible exact H | (rw [hy312]; exact H) | exact H
   have Ny312 := ba_.mk hy312
   clear hy312
   obtain ⟨c7, H⟩ := Qq H
   have LMc7 := ba_.mk c7
   clear c7
   obtain ⟨y316, hy316⟩ : ∃ y_ : List Int, y_ = (([] : List Int) ++ y312) := ⟨_, rfl⟩
   replace H : (if y316.length < 17592186044416 then ((some (y316 ++ [x6_1] : List Int)).bind fun y319 => ((some (x5_1.drop (t310 : Int).toNat : List Int)).bind fun y322 => (if y319.length + y322.length < 17592186044416 then (rb_.l0 k1 a1 (y319 ++ y322) (wrap64 (x6_1 + 1)) s0_0 t311) else (none)))) else (none)) = some (r1, r2) := by first | (rw [hy316]; with_reducible exact H) | (have H2_ := (Option.bind_some _ _).symm.trans H; rw [hy316]; with_reducible exact H2_) | (have H2_ := (Option.bind_some _ _).symm.trans H; with_reducible exact H2_) | with_reducible exact H | (rw [hy316]; exact H) | exact H
   have Ny316 := ba_.mk hy316
   clear hy316
   obtain ⟨c8, H⟩ := Qq H
   have LMc8 := ba_.mk c8
   clear c8
   obtain ⟨y319, hy319⟩ : ∃ y_ : List Int, y_ = (y316 ++ [x6_1]) := ⟨_, rfl⟩
   replace H : ((some (x5_1.drop (t310 : Int).toNat : List Int)).bind fun y322 => (if y319.length + y322.length < 17592186044416 then (rb_.l0 k1 a1 (y319 ++ y322) (wrap64 (x6_1 + 1)) s0_0 t311) else (none))) = some (r1, r2) := by first | (rw [hy319]; with_reducible exact H) | (have H2_ := (Option.bind_some _ _).symm.trans H; rw [hy319]; with_reducible exact H2_) | (have H2_ := (Option.bind_some _ _).symm.trans H; with_reducible exact H2_) | with_reducible exact H | (rw [hy319]; exact H) | exact H
   have Ny319 := ba_.mk hy319
   clear hy319
   have c9b0 := eq_true (of_decide_eq_true Qi : 0 ≤ t310)
   have c10b0 := eq_true (of_decide_eq_true Qi : t310 ≤ (x5_1.length : Int))
   obtain ⟨y322, hy322⟩ : ∃ y_ : List Int, y_ = (x5_1.drop (t310 : Int).toNat) := ⟨_, rfl⟩
   replace H : (if y319.length + y322.length < 17592186044416 then (rb_.l0 k1 a1 (y319 ++ y322) (wrap64 (x6_1 + 1)) s0_0 t311) else (none)) = some (r1, r2) := by first | (rw [hy322]; with_reducible exact H) | (have H2_ := (Option.bind_some _ _).symm.trans H; rw [hy322]; with_reducible exact H2_) | (have H2_ := (Option.bind_some _ _).symm.trans H; with_reducible exact H2_) | with_reducible exact H | (rw [hy322]; exact H) | exact H
   have Ny322 := ba_.mk hy322
   clear hy322
   obtain ⟨c11, H⟩ := Qq H
   have LMc11 := ba_.mk c11
   clear c11
   obtain ⟨y326, hy326⟩ : ∃ y_ : List Int, y_ = (y319 ++ y322) := ⟨_, rfl⟩
   replace H : (rb_.l0 k1 a1 y326 (wrap64 (x6_1 + 1)) s0_0 t311) = some (r1, r2) := by first | (rw [hy326]; with_reducible exact H) | (have H2_ := (Option.bind_some _ _).symm.trans H; rw [hy326]; with_reducible exact H2_) | (have H2_ := (Option.bind_some _ _).symm.trans H; with_reducible exact H2_) | with_reducible exact H | (rw [hy326]; exact H) | exact H
   have Ny326 := ba_.mk hy326
   clear hy326
   have H' := ba_.mk H
   clear H
   go_wp2_with (first | ((with_reducible refine va_ (f := 30) rfl ?_); refine lc_ (some 17) rfl rfl Tryz.func30 Qb rfl #[.pointer (some ⟨g, 0, none⟩), .int .i64 (wrap64 (x6_1 + 1))] rfl Qm ?_; (with_reducible refine (oa_.calls g s0_0 x1001_1 (wrap64 (x6_1 + 1)) t310 t311 w0 _ ?side1 ?side2 A4.out).mono ?_); (case side1 => exact Xd); (case side2 => exact Xe); rintro e w12 ⟨rfl, hi, hb, hk⟩; refine ⟨_, rfl, ?_⟩; have n0_ := ba_.mk (Kd.fd_ (Kd.hj_ (ga_.apart (show ga_ w0 _ g s0_0 x1001_1 from by repeat (first | (with_reducible first | exact HI0.out | apply ga_.alloc | apply ga_.drewN | apply ga_.drew | apply ga_.tc_) | exact HI0.out)) (Qk HO_5.out) Qc) hk (fun _ h => h.2)) (fun _ h => h.1)); have n1_ := ba_.mk (ra_.trans Qw hk (.inl rfl)); have n2_ := ba_.mk (hb); have n3_ := ba_.mk (hi); clear HO_5; clear HK; clear HB; clear HI0; have HO_5 := n0_; have HK := n1_; have HB := n2_; have HI0 := n3_; clear n0_ n1_ n2_ n3_; (try clear hb); (try clear hb2); (try clear hk); (try clear hi); obtain ⟨Ao14, co14, eo14⟩ := Kd.td_ HO_5.out; subst eo14; have q13 : (t310 : Int) ≤ ((x5_1.length : Int) : Int) := of_decide_eq_true Qi; obtain ⟨i013, hi013, _, hsz13, _⟩ := info_parts zh_; have hroom13 : x5_1.length ≤ co14 := (Kd.wb_ HO_5.out).2.1; have hC13 : Kd.C (Kd.int .i64) _ Ao14 x5_1.length x5_1 := (Kd.wb_ HO_5.out).2.2; have hcut13 := ic1_ (P := Tryz.prog) 22 3 .i64 Tryz.underlying22 hi013 Ao14 x5_1.length co14 t310 (of_decide_eq_true Qi) q13 hroom13; have hr13 := Kd.xx_ (m := (t310 : Int).toNat) hC13 Qa; have hy13 : y312.length = (t310 : Int).toNat := (by rw [Ny312.out, List.length_take]; omega); rw [← Ny312.out] at hr13; rw [← hy13] at hcut13; have HR315 := ba_.mk hr13; have HC315 := ba_.mk (show y312.length ≤ co14 from by omega); clear hr13 hC13 hroom13 hi013 hsz13; have KY13 := ba_.mk hy13; clear hy13; have KL13 := ba_.mk (show (t310 : Int).toNat ≤ x5_1.length from by omega); replace q13 := eq_true q13) | ((with_reducible refine md_ (b := .append) (xs := #[.tmp 18, .tmp 21]) rfl ?_); at_builtin; refine Kd.eh_ (Kd.int .i64) w.heap.size rfl (.tmp 18) (.tmp 21) 22 3 (.int .i64 0) 8 rfl Tryz.underlying22 zh_ rfl Qc Qa (.slice none 0 0) ([] : List Int) y312 _ _ _ (fun k_ => some k_ ≠ (.slice Ao14 x5_1.length co14 : Value).ownBlock) (fun _ => False) rfl rfl ?aO ?aR (fun _ _ h => h) (fun _ h => h.elim) ?aF (Below.refl _ _) ?aS ?aL ?_; (case aR => repeat (first | exact (by repeat (first | (with_reducible exact HR315.out) | (with_reducible refine Kd.zc_ ?_ _) | (with_reducible refine Kd.ad_ ?_ _) | (with_reducible refine Kd.od_ ?_) | exact HR315.out)) | (with_reducible refine Kd.zc_ ?_ _) | (with_reducible refine Kd.ad_ ?_ _) | (with_reducible refine Kd.od_ ?_))); (case aF => exact (fun k_ hk => Kd.fresh' (Kd.R_lt (Qk HO_5.out)) k_ hk)); (case aO => exact ((Kd.vf_ _ _ _ _ (fun k_ => some k_ ≠ (.slice Ao14 x5_1.length co14 : Value).ownBlock)))); (case aS => exact (kd_ (w := w) (g := g) (row := none) Qw)); (case aL => have := LMc7.out; omega); intro v317 w15 ho hb hg hat; rw [← Ny316.out] at ho; have n0_ := ba_.mk (Kd.oh_ (Kd.yp_ (Qk HO_5.out)) hg hat); have n1_ := ba_.mk (ga_.grown Q2 hg Q6); have n2_ := ba_.mk (gg_ Q3 HL.out hb); have n3_ := ba_.mk (ra_.trans Qw (ra_.ki_ hg g) (.inl Q6)); have n4_ := ba_.mk ((show Kd.C (Kd.int .i64) w15 Ao14 y312.length y312 from by rw [Ny312.out]; exact Kd.xx_ (m := (t310 : Int).toNat) ((Kd.wb_ (Kd.oh_ (Kd.yp_ (Qk HO_5.out)) hg hat)).2.2) KL13.out)); have n5_ := ba_.mk (ho); clear HO_5; clear HI0; clear HB; clear HK; clear HR315; have HO_5 := n0_; have HI0 := n1_; have HB := n2_; have HK := n3_; have HR315 := n4_; have HO318 := n5_; clear n0_ n1_ n2_ n3_ n4_ n5_; clear ho hb hg hat) | ((with_reducible refine md_ (b := .append) (xs := #[.tmp 23, .tmp 25]) rfl ?_); at_builtin; refine Kd.yf_ (Kd.int .i64) w.heap.size rfl (.tmp 23) (.tmp 25) 22 3 (.int .i64 0) 8 rfl Tryz.underlying22 zh_ rfl Qc Qa v317 y316 x6_1 [.int .i64 x6_1] (fun k_ => some k_ ≠ (.slice Ao14 x5_1.length co14 : Value).ownBlock) (fun _ => False) rfl rfl ?aP (fun _ hk => hk.elim) ?aF ?aO (Below.refl _ _) ?aS ?aL ?_; (case aP => exact rfl); (case aF => exact (fun k_ hk => Kd.fresh' (Kd.R_lt (Qk HO_5.out)) k_ hk)); (case aO => exact (Qk HO318.out)); (case aS => exact (kd_ (w := w) (g := g) (row := none) Qw)); (case aL => have := LMc8.out; omega); intro v320 w16 ho hb hg hat; rw [← Ny319.out] at ho; have n0_ := ba_.mk (Kd.oh_ (ok := (fun _ => True)) (Qk HO_5.out) hg hat); have n1_ := ba_.mk (ga_.grown Q2 hg (ga_.el_ HI0.out HO318.out Qc)); have n2_ := ba_.mk (gg_ Q3 HL.out hb); have n3_ := ba_.mk (ra_.trans Qw (ra_.ki_ hg g) (Kd.zp_ HO318.out)); have n4_ := ba_.mk ((show Kd.C (Kd.int .i64) w16 Ao14 y312.length y312 from by rw [Ny312.out]; exact Kd.xx_ (m := (t310 : Int).toNat) ((Kd.wb_ (Kd.oh_ (ok := (fun _ => True)) (Qk HO_5.out) hg hat)).2.2) KL13.out)); have n5_ := ba_.mk (ho); clear HO_5; clear HI0; clear HB; clear HK; clear HR315; clear HO318; have HO_5 := n0_; have HI0 := n1_; have HB := n2_; have HK := n3_; have HR315 := n4_; have HO321 := n5_; clear n0_ n1_ n2_ n3_ n4_ n5_; clear ho hb hg hat; have q17 : (t310 : Int) ≤ ((x5_1.length : Int) : Int) := of_decide_eq_true Qi; obtain ⟨i017, hi017, _, hsz17, _⟩ := info_parts zh_; have hroom17 : x5_1.length ≤ co14 := (Kd.wb_ HO_5.out).2.1; have hC17 : Kd.C (Kd.int .i64) _ Ao14 x5_1.length x5_1 := (Kd.wb_ HO_5.out).2.2; have q017 : (0 : Int) ≤ (t310 : Int) := of_decide_eq_true Qi; have hcut17 := ef1_ (P := Tryz.prog) 22 3 .i64 Tryz.underlying22 hi017 1 hsz17 Ao14 x5_1.length co14 t310 q017 q17; have hr17 := Kd.kh1_ (m := (t310 : Int).toNat) (c := co14) hC17 Qa hroom17; obtain ⟨A17, hA17⟩ : ∃ A1, A1 = (if co14 = (t310 : Int).toNat then Ao14 else (Ao14 : Option Addr).map (·.add ((t310 : Int).toNat * 1))) := ⟨_, rfl⟩; obtain ⟨c17, hc17⟩ : ∃ c1, c1 = co14 - (t310 : Int).toNat := ⟨_, rfl⟩; have hy17 : y322.length = x5_1.length - (t310 : Int).toNat := (by rw [Ny322.out, List.length_drop] <;> omega); rw [show (x5_1).drop (t310 : Int).toNat = y322 from Ny322.out.symm] at hr17; replace hr17 : Kd.C (Kd.int .i64) _ A17 y322.length y322 := (by rw [hA17]; exact hr17); rw [← hy17, ← hA17, ← hc17] at hcut17; have HR325 := ba_.mk hr17; have HC325 := ba_.mk (show y322.length ≤ c17 from by rw [hy17, hc17]; exact Nat.sub_le_sub_right hroom17 _); clear hr17 hC17 hroom17 hi017 hsz17 hc17; have KY17 := ba_.mk hy17; have KA17 := ba_.mk hA17; clear hy17 hA17; have KL17 := ba_.mk (show (t310 : Int).toNat ≤ x5_1.length from by omega); replace q17 := eq_true q17) | ((with_reducible refine md_ (b := .append) (xs := #[.tmp 27, .tmp 30]) rfl ?_); at_builtin; refine Kd.eh_ (Kd.int .i64) w.heap.size rfl (.tmp 27) (.tmp 30) 22 3 (.int .i64 0) 8 rfl Tryz.underlying22 zh_ rfl Qc Qa v320 y319 y322 _ _ _ (fun k_ => some k_ ≠ (.slice Ao14 x5_1.length co14 : Value).ownBlock) (fun _ => False) rfl rfl ?aO ?aR (fun _ _ h => h) (fun _ h => h.elim) ?aF (Below.refl _ _) ?aS ?aL ?_; (case aR => repeat (first | exact (by repeat (first | (with_reducible exact HR325.out) | (with_reducible refine Kd.zc_ ?_ _) | (with_reducible refine Kd.ad_ ?_ _) | (with_reducible refine Kd.od_ ?_) | exact HR325.out)) | (with_reducible refine Kd.zc_ ?_ _) | (with_reducible refine Kd.ad_ ?_ _) | (with_reducible refine Kd.od_ ?_))); (case aF => exact (fun k_ hk => Kd.fresh' (Kd.R_lt (Qk HO_5.out)) k_ hk)); (case aO => exact (Qk HO321.out)); (case aS => exact (kd_ (w := w) (g := g) (row := none) Qw)); (case aL => have := LMc11.out; omega); intro v327 w18 ho hb hg hat; rw [← Ny326.out] at ho; have n0_ := ba_.mk (Kd.oh_ (ok := (fun _ => True)) (Qk HO_5.out) hg hat); have n1_ := ba_.mk (ga_.grown Q2 hg (ga_.el_ HI0.out HO321.out Qc)); have n2_ := ba_.mk (gg_ Q3 HL.out hb); have n3_ := ba_.mk (ra_.trans Qw (ra_.ki_ hg g) (Kd.zp_ HO321.out)); have n4_ := ba_.mk ((show Kd.C (Kd.int .i64) w18 Ao14 y312.length y312 from by rw [Ny312.out]; exact Kd.xx_ (m := (t310 : Int).toNat) ((Kd.wb_ (Kd.oh_ (ok := (fun _ => True)) (Qk HO_5.out) hg hat)).2.2) KL13.out)); have n5_ := ba_.mk ((show Kd.C (Kd.int .i64) w18 A17 y322.length y322 from by rw [Ny322.out, KA17.out]; exact Kd.kh1_ (m := (t310 : Int).toNat) (c := co14) ((Kd.wb_ (Kd.oh_ (ok := (fun _ => True)) (Qk HO_5.out) hg hat)).2.2) KL17.out ((Kd.wb_ (Kd.oh_ (ok := (fun _ => True)) (Qk HO_5.out) hg hat)).2.1))); have n6_ := ba_.mk (ho); clear HO_5; clear HI0; clear HB; clear HK; clear HR315; clear HR325; clear HO321; have HO_5 := n0_; have HI0 := n1_; have HB := n2_; have HK := n3_; have HR315 := n4_; have HR325 := n5_; have HO328 := n6_; clear n0_ n1_ n2_ n3_ n4_ n5_ n6_; clear ho hb hg hat))
   go_roundg k1
   case measure => have := HK1.out; omega
   case rel => exact ⟨(y326), (wrap64 (x6_1 + 1)), (t311), Ql, H', ⟨Xf⟩, ⟨by (with_reducible repeat (first | apply Kd.bb_ | apply Kd.cb_ | apply Kd.sb_)); exact Kd.fd_ HO328.out (fun _ hk => trivial)⟩, ⟨Q2⟩, ⟨Qw⟩, ⟨Q3⟩⟩
end Go.Proofs.YtpkhgapifnjbeaaGreatDoor.TL
end
section
namespace Go.Proofs.YtpkhgapifnjbeaaGreatDoor.TL
open RowKit G Rs Zw.PrintWords Zw.PrintLast Zw.PrintMore
attribute [local go_sem] pd_ rd_ yd_ zd_ dd_ ed_ qd_ sd_
attribute [local go_sem high] eqA38
mutual
def na_.l0 : Nat → ByteArray → Int → List Int → Int → Option (ByteArray × Int)
 | 0, _, _, _, _ => none
 | k + 1, x1, x5, x1000, x1001 => if x5 < 3 then ((oa_.f x1000 x1001 7).bind fun bt329 => ((oa_.f x1000 bt329.2 2).bind fun bt331 => ((kb_.f k x1 bt329.1 bt331.1).bind fun t333 => ((oa_.f x1000 bt331.2 7).bind fun bt334 => ((oa_.f x1000 bt334.2 2).bind fun bt336 => ((kb_.f k t333 (wrap64 (67 + bt334.1)) bt336.1).bind fun t338 => (na_.l0 k t338 (wrap64 (x5 + 1)) x1000 bt336.2))))))) else ((rb_.f k x1000 x1001 12).bind fun bt339 => ((oa_.f x1000 bt339.2 2).bind fun bt343 => (if bt343.1 = 1 then (na_.j1 k x1 bt339.1 6 1 x1000 bt343.2) else (na_.j1 k x1 bt339.1 3 0 x1000 bt343.2))))
def na_.j1 : Nat → ByteArray → List Int → Int → Int → List Int → Int → Option (ByteArray × Int)
 | 0, _, _, _, _, _, _ => none
 | k + 1, x1, x6, x7, x8, x1000, x1001 => na_.l1 k x1 x6 x7 x8 0 x1000 x1001
def na_.l1 : Nat → ByteArray → List Int → Int → Int → Int → List Int → Int → Option (ByteArray × Int)
 | 0, _, _, _, _, _, _, _ => none
 | k + 1, x1, x6, x7, x8, x9, x1000, x1001 => if x9 < x7 then (if 0 ≤ x9 then (if x9 < (x6.length : Int) then ((oa_.f x1000 x1001 5).bind fun bt346 => ((kb_.f k x1 (wrap64 ((wrap64 (7 + (wrap64 (5 * (rd x6 x9))))) + bt346.1)) x8).bind fun t348 => (na_.l1 k t348 x6 x7 x8 (wrap64 (x9 + 1)) x1000 bt346.2))) else (none)) else (none)) else ((oa_.f x1000 x1001 2).bind fun bt349 => (if bt349.1 = 1 then ((wj_.f x1).bind fun t351 => (some (t351, bt349.2))) else (some (x1, bt349.2))))
end
def na_.f (k : Nat) (s0_0 : List Int) (s0_1 : Int) (a1 : ByteArray) : Option (ByteArray × Int) := na_.l0 k a1 0 s0_0 s0_1
theorem na_.nd_ : ∀ k, (∀ y0 y1 y2 y3, LeO (na_.l0 k y0 y1 y2 y3) (na_.l0 (k + 1) y0 y1 y2 y3)) ∧ (∀ y0 y1 y2 y3 y4 y5, LeO (na_.j1 k y0 y1 y2 y3 y4 y5) (na_.j1 (k + 1) y0 y1 y2 y3 y4 y5)) ∧ (∀ y0 y1 y2 y3 y4 y5 y6, LeO (na_.l1 k y0 y1 y2 y3 y4 y5 y6) (na_.l1 (k + 1) y0 y1 y2 y3 y4 y5 y6))
 | 0 => ⟨fun _ _ _ _ r h => by simp [na_.l0] at h, fun _ _ _ _ _ _ r h => by simp [na_.j1] at h, fun _ _ _ _ _ _ _ r h => by simp [na_.l1] at h⟩
 | k + 1 => by
  obtain ⟨ih0, ih1, ih2⟩ := na_.nd_ k
  refine ⟨?_, ?_, ?_⟩
  ·intro y0 y1 y2 y3
   unfold na_.l0
   have m0 := kb_.mono
   have m1 := rb_.mono
   exact Qr
  ·intro y0 y1 y2 y3 y4 y5
   unfold na_.j1
   have m0 := kb_.mono
   have m1 := rb_.mono
   exact Qr
  intro y0 y1 y2 y3 y4 y5 y6
  unfold na_.l1
  have m0 := kb_.mono
  have m1 := rb_.mono
  exact Qr
theorem na_.mono : ∀ a0 a1 a2 k, LeO (na_.f k a0 a1 a2) (na_.f (k + 1) a0 a1 a2) := by
 intro a0 a1 a2 k
 obtain ⟨ih0, ih1, ih2⟩ := na_.nd_ k
 unfold na_.f
 have m0 := kb_.mono
 have m1 := rb_.mono
 exact Qr
def na_.T13 : Bool × List (List Nat × List Nat) := (true, [([], []), ([], []), ([], []), ([1, 2], [1, 2]), ([3], [3]), ([4], [4]), ([5], [5]), ([], []), ([7], [7]), ([6, 8], [6, 8]), ([], []), ([0, 9, 10, 8], [0, 9, 10]), ([11, 11, 0, 1, 2, 3, 4, 5, 6, 7, 8, 9, 10, 11], [0, 11])])
def na_.B13 : List Nat := [0, 0, 0, 6, 14, 30, 62, 0, 128, 510, 0, 2047, 4095]
theorem na_.tab13 : rtab .any (opsOf Tryz.f16 13) = na_.T13 := by kernel_rfl
theorem na_.bits13 : ni_ na_.T13.2 na_.B13 = true := by kernel_rfl
set_option maxHeartbeats 8000000 in
set_option maxRecDepth 100000 in
theorem na_.calls (k : Nat) (g : Nat) (s0_0 : List Int) (s0_1 : Int) (a1 : ByteArray) (r1 : ByteArray) (r2 : Int) (w0 w : World) (hI : ga_ w0 w g s0_0 s0_1) (hB : Below w0.heap.size w0 w) (h : na_.f k s0_0 s0_1 a1 = some (r1, r2)) :
  Calls Tryz.prog 16 #[.pointer (some ⟨g, 0, none⟩), .string a1] w fun e w' => e = .returned (.string r1) ∧ ga_ w0 w' g s0_0 r2 ∧ Below w0.heap.size w0 w' ∧ ra_ w w' g none := by
 have HI0 := ba_.mk hI
 have HK := ba_.mk (ra_.refl w g none)
 have HL := ba_.mk hB.size
 clear hI
 have HW0 := ba_.mk hB.size
 have HB := ba_.mk hB
 clear hB
 have H : (na_.l0 k a1 0 s0_0 s0_1) = some (r1, r2) := h
 clear h
 have H' := ba_.mk H
 clear H
 go_enter Tryz.func16, Tryz.ntmps16
 go_wp2
 go_loopg [1, 5] k (fun kq v1 v5 w' => ∃ (x1_1 : ByteArray) (x5_1 : Int) (x1001_1 : Int), v1 = .string x1_1 ∧ v5 = .int .i64 x5_1 ∧ ba_ (na_.l0 kq x1_1 x5_1 s0_0 x1001_1 = some (r1, r2)) ∧ ba_ (kq ≤ k) ∧ ba_ (ga_ w0 w' g s0_0 x1001_1) ∧ ba_ (ra_ w w' g none) ∧ ba_ (Below w0.heap.size w0 w'))
 case atStart => exact ⟨(a1), (0), (s0_1), Ql, Ql, H', ⟨Nat.le_refl _⟩, ⟨Q2⟩, ⟨Qw⟩, ⟨Q3⟩⟩
 case round =>
  clear H'
  try clear c1
  try clear p2
  obtain ⟨x1_1, x5_1, x1001_1, rfl, rfl, HA, HK1, HI0, HK, HB⟩ := hrel
  cases gk with
  | zero => exact absurd HA.out (by simp [na_.l0])
  | succ k1 =>
   have H := HA.out
   clear HA
   simp only [na_.l0] at H
   by_cases c3 : x5_1 < 3
   ·rw [if_pos c3] at H
    have c3b0 := decide_eq_true c3
    clear c3
    obtain ⟨⟨t329, t330⟩, A4, H⟩ := Qo H
    try dsimp only at H
    obtain ⟨⟨t331, t332⟩, A5, H⟩ := Qo H
    try dsimp only at H
    obtain ⟨t333, A6, H⟩ := Qo H
    try dsimp only at H
    obtain ⟨⟨t334, t335⟩, A7, H⟩ := Qo H
    try dsimp only at H
    obtain ⟨⟨t336, t337⟩, A8, H⟩ := Qo H
    try dsimp only at H
    obtain ⟨t338, A9, H⟩ := Qo H
    try dsimp only at H
    have H' := ba_.mk H
    clear H
    go_wp2_with (first | ((with_reducible refine va_ (f := 30) rfl ?_); refine lc_ (some 16) rfl rfl Tryz.func30 Qb rfl #[.pointer (some ⟨g, 0, none⟩), .int .i64 7] rfl Qm ?_; (with_reducible refine (oa_.calls g s0_0 x1001_1 7 t329 t330 w0 _ ?side1 ?side2 A4.out).mono ?_); (case side1 => exact Xd); (case side2 => exact Xe); rintro e w10 ⟨rfl, hi, hb, hk⟩; refine ⟨_, rfl, ?_⟩; have n0_ := ba_.mk (ra_.trans Qw hk (.inl rfl)); have n1_ := ba_.mk (hb); have n2_ := ba_.mk (hi); clear HK; clear HB; clear HI0; have HK := n0_; have HB := n1_; have HI0 := n2_; clear n0_ n1_ n2_; (try clear hb); (try clear hb2); (try clear hk); (try clear hi)) | ((with_reducible refine va_ (f := 30) rfl ?_); refine lc_ (some 18) rfl rfl Tryz.func30 Qb rfl #[.pointer (some ⟨g, 0, none⟩), .int .i64 2] rfl Qm ?_; (with_reducible refine (oa_.calls g s0_0 t330 2 t331 t332 w0 _ ?side1 ?side2 A5.out).mono ?_); (case side1 => exact Xd); (case side2 => exact Xe); rintro e w11 ⟨rfl, hi, hb, hk⟩; refine ⟨_, rfl, ?_⟩; have n0_ := ba_.mk (ra_.trans Qw hk (.inl rfl)); have n1_ := ba_.mk (hb); have n2_ := ba_.mk (hi); clear HK; clear HB; clear HI0; have HK := n0_; have HB := n1_; have HI0 := n2_; clear n0_ n1_ n2_; (try clear hb); (try clear hb2); (try clear hk); (try clear hi)) | ((with_reducible refine va_ (f := 48) rfl ?_); refine lc_ (some 19) rfl rfl Tryz.func48 Qb rfl #[.string x1_1, .int .i64 t329, .int .i64 t331] rfl Qm ?_; (with_reducible refine (kb_.calls k1 x1_1 t329 t331 t333 _ A6.out).mono ?_); rintro e w' ⟨rfl, ⟨nd, rfl⟩⟩; refine ⟨_, rfl, ?_⟩) | ((with_reducible refine va_ (f := 30) rfl ?_); refine lc_ (some 22) rfl rfl Tryz.func30 Qb rfl #[.pointer (some ⟨g, 0, none⟩), .int .i64 7] rfl Qm ?_; (with_reducible refine (oa_.calls g s0_0 t332 7 t334 t335 w0 _ ?side1 ?side2 A7.out).mono ?_); (case side1 => exact Xd); (case side2 => exact Xe); rintro e w12 ⟨rfl, hi, hb, hk⟩; refine ⟨_, rfl, ?_⟩; have n0_ := ba_.mk (ra_.trans Qw hk (.inl rfl)); have n1_ := ba_.mk (hb); have n2_ := ba_.mk (hi); clear HK; clear HB; clear HI0; have HK := n0_; have HB := n1_; have HI0 := n2_; clear n0_ n1_ n2_; (try clear hb); (try clear hb2); (try clear hk); (try clear hi)) | ((with_reducible refine va_ (f := 30) rfl ?_); refine lc_ (some 25) rfl rfl Tryz.func30 Qb rfl #[.pointer (some ⟨g, 0, none⟩), .int .i64 2] rfl Qm ?_; (with_reducible refine (oa_.calls g s0_0 t335 2 t336 t337 w0 _ ?side1 ?side2 A8.out).mono ?_); (case side1 => exact Xd); (case side2 => exact Xe); rintro e w13 ⟨rfl, hi, hb, hk⟩; refine ⟨_, rfl, ?_⟩; have n0_ := ba_.mk (ra_.trans Qw hk (.inl rfl)); have n1_ := ba_.mk (hb); have n2_ := ba_.mk (hi); clear HK; clear HB; clear HI0; have HK := n0_; have HB := n1_; have HI0 := n2_; clear n0_ n1_ n2_; (try clear hb); (try clear hb2); (try clear hk); (try clear hi)) | ((with_reducible refine va_ (f := 48) rfl ?_); refine lc_ (some 26) rfl rfl Tryz.func48 Qb rfl #[.string t333, .int .i64 (wrap64 (67 + t334)), .int .i64 t336] rfl Qm ?_; (with_reducible refine (kb_.calls k1 t333 (wrap64 (67 + t334)) t336 t338 _ A9.out).mono ?_); rintro e w' ⟨rfl, ⟨nd, rfl⟩⟩; refine ⟨_, rfl, ?_⟩))
    go_roundg k1
    case measure => have := HK1.out; omega
    case rel => exact ⟨(t338), (wrap64 (x5_1 + 1)), (t337), Ql, Ql, H', ⟨Xf⟩, ⟨Q2⟩, ⟨Qw⟩, ⟨Q3⟩⟩
   rw [if_neg c3] at H
   have c3b0 := decide_eq_false c3
   clear c3
   obtain ⟨⟨t339, t342⟩, A14, H⟩ := Qo H
   try dsimp only at H
   obtain ⟨⟨t343, t344⟩, A15, H⟩ := Qo H
   try dsimp only at H
   have HC16 := ba_.mk H
   clear H
   go_upto_if 31 with (first | ((with_reducible refine va_ (f := 49) rfl ?_); refine lc_ (some 28) rfl rfl Tryz.func49 Qb rfl #[.pointer (some ⟨g, 0, none⟩), .int .i64 12] rfl Qm ?_; (with_reducible refine (rb_.calls k1 g s0_0 x1001_1 12 t339 t342 w0 _ ?side1 ?side2 A14.out).mono ?_); (case side1 => exact Xd); (case side2 => exact Xe); rintro e w17 ⟨v340, rfl, ho0, hi, hb, hk⟩; refine ⟨_, rfl, ?_⟩; have n0_ := ba_.mk (Kd.xd_ ho0 (kd_ (w := w) (g := g) (row := none) Qw)); have n1_ := ba_.mk (ra_.trans Qw hk (.inl rfl)); have n2_ := ba_.mk (hb); have n3_ := ba_.mk (hi); clear HK; clear HB; clear HI0; have HO341 := n0_; have HK := n1_; have HB := n2_; have HI0 := n3_; clear n0_ n1_ n2_ n3_; (try clear hb); (try clear hb2); (try clear hk); (try clear hi); (try clear ho0)) | ((with_reducible refine va_ (f := 30) rfl ?_); refine lc_ (some 30) rfl rfl Tryz.func30 Qb rfl #[.pointer (some ⟨g, 0, none⟩), .int .i64 2] rfl Qm ?_; (with_reducible refine (oa_.calls g s0_0 t342 2 t343 t344 w0 _ ?side1 ?side2 A15.out).mono ?_); (case side1 => exact Xd); (case side2 => exact Xe); rintro e w18 ⟨rfl, hi, hb, hk⟩; refine ⟨_, rfl, ?_⟩; have n0_ := ba_.mk (Kd.fd_ (Kd.hj_ (ga_.apart (show ga_ w0 _ g s0_0 t342 from by repeat (first | (with_reducible first | exact HI0.out | apply ga_.alloc | apply ga_.drewN | apply ga_.drew | apply ga_.tc_) | exact HI0.out)) (Qk HO341.out) Qc) hk (fun _ h => h.2)) (fun _ h => h.1)); have n1_ := ba_.mk (ra_.trans Qw hk (.inl rfl)); have n2_ := ba_.mk (hb); have n3_ := ba_.mk (hi); clear HO341; clear HK; clear HB; clear HI0; have HO341 := n0_; have HK := n1_; have HB := n2_; have HI0 := n3_; clear n0_ n1_ n2_ n3_; (try clear hb); (try clear hb2); (try clear hk); (try clear hi)))
   (try simp only [Act.put, List.setIfInBounds_toArray, List.set_cons_zero, List.set_cons_succ])
   go_cut [7, 8] (fun v7 v8 wc => ∃ (kq : Nat) (x7_15 : Int) (x8_15 : Int), v7 = .int .i64 x7_15 ∧ v8 = .int .i64 x8_15 ∧ ba_ (na_.j1 kq x1_1 t339 x7_15 x8_15 s0_0 t344 = some (r1, r2)) ∧ ba_ (kq ≤ k1) ∧ ba_ (Kd.R (Kd.int .i64) 3 wc w.heap.size (fun _ => True) v340 t339) ∧ ba_ (ga_ w0 wc g s0_0 t344) ∧ ba_ (ra_ w wc g none) ∧ ba_ (Below w0.heap.size w0 wc))
   case first =>
    have H := HC16.out
    clear HC16
    by_cases c19 : t343 = 1
    rotate_left
    ·rw [if_neg c19] at H
     have c19b0 : (t343 == 1) = false := beq_eq_false_iff_ne.mpr c19
     have c19b1 : (t343 != 1) = true := bne_iff_ne.mpr c19
     (first | rw [c19b0] | (simp only [yb_, ac_]; rw [c19b0]) | skip)
     have H' := ba_.mk H
     clear H
     go_wp2
     go_meet
     case rel => exact ⟨_, (3), (0), Ql, Ql, H', ⟨Yc⟩, ⟨by (with_reducible repeat (first | apply Kd.bb_ | apply Kd.cb_ | apply Kd.sb_)); exact HO341.out⟩, ⟨Q2⟩, ⟨Qw⟩, ⟨Q3⟩⟩
    rw [if_pos c19] at H
    have c19b0 : (t343 == 1) = true := beq_iff_eq.mpr c19
    have c19b1 : (t343 != 1) = false := bne_eq_false_iff_eq.mpr c19
    clear c19
    (first | rw [c19b0] | (simp only [yb_, ac_]; rw [c19b0]) | skip)
    have H' := ba_.mk H
    clear H
    go_wp2
    go_meet
    case rel => exact ⟨_, (6), (1), Ql, Ql, H', ⟨Yc⟩, ⟨by (with_reducible repeat (first | apply Kd.bb_ | apply Kd.cb_ | apply Kd.sb_)); exact HO341.out⟩, ⟨Q2⟩, ⟨Qw⟩, ⟨Q3⟩⟩
   case rest =>
    clear HC16
    try clear c1
    try clear p2
    try clear c3
    try clear c3b0
    try clear c4
    try clear p6
    try clear c16
    try clear c19
    try clear c19b0
    try clear c19b1
    try clear p2
    obtain ⟨kq, x7_15, x8_15, rfl, rfl, HA, HJ15, HO_6, HI0, HK, HB⟩ := hcut
    cases kq with
    | zero => exact absurd HA.out (by simp [na_.j1])
    | succ kj15 =>
     have H := HA.out
     clear HA
     simp only [na_.j1] at H
     have H' := ba_.mk H
     clear H
     go_wp2
     go_loopg [1, 9] kj15 (fun kq v1 v9 w' => ∃ (x1_3 : ByteArray) (x9_3 : Int) (x1001_3 : Int), v1 = .string x1_3 ∧ v9 = .int .i64 x9_3 ∧ ba_ (na_.l1 kq x1_3 t339 x7_15 x8_15 x9_3 s0_0 x1001_3 = some (r1, r2)) ∧ ba_ (kq ≤ kj15) ∧ ba_ (Kd.R (Kd.int .i64) 3 w' w.heap.size (fun _ => True) v340 t339) ∧ ba_ (ga_ w0 w' g s0_0 x1001_3) ∧ ba_ (ra_ w w' g none) ∧ ba_ (Below w0.heap.size w0 w'))
     case atStart => exact ⟨(x1_1), (0), (t344), Ql, Ql, H', ⟨Nat.le_refl _⟩, ⟨by (with_reducible repeat (first | apply Kd.bb_ | apply Kd.cb_ | apply Kd.sb_)); exact HO_6.out⟩, ⟨Q2⟩, ⟨Qw⟩, ⟨Q3⟩⟩
     case round =>
      clear H'
      try clear c1
      try clear p2
      try clear c3
      try clear c3b0
      try clear c4
      try clear p6
      try clear c16
      try clear c19
      try clear c19b0
      try clear c19b1
      try clear p2
      try clear p6
      obtain ⟨x1_3, x9_3, x1001_3, rfl, rfl, HA, HK3, HO_6, HI0, HK, HB⟩ := hrel
      cases gk with
      | zero => exact absurd HA.out (by simp [na_.l1])
      | succ k3 =>
       have H := HA.out
       clear HA
       simp only [na_.l1] at H
       by_cases c20 : x9_3 < x7_15
       rotate_left
       ·rw [if_neg c20] at H
        have c20b0 := decide_eq_false c20
        clear c20
        obtain ⟨⟨t349, t350⟩, A28, H⟩ := Qo H
        try dsimp only at H
        by_cases c29 : t349 = 1
        rotate_left
        ·rw [if_neg c29] at H
         have c29b0 : (t349 == 1) = false := beq_eq_false_iff_ne.mpr c29
         have c29b1 : (t349 != 1) = true := bne_iff_ne.mpr c29
         simp only [Option.some.injEq, Prod.mk.injEq] at H
         obtain ⟨rfl, rfl⟩ := H
         go_wp2_with (first | ((with_reducible refine va_ (f := 30) rfl ?_); refine lc_ (some 50) rfl rfl Tryz.func30 Qb rfl #[.pointer (some ⟨g, 0, none⟩), .int .i64 2] rfl Qm ?_; (with_reducible refine (oa_.calls g s0_0 x1001_3 2 t349 t350 w0 _ ?side1 ?side2 A28.out).mono ?_); (case side1 => exact Xd); (case side2 => exact Xe); rintro e w33 ⟨rfl, hi, hb, hk⟩; refine ⟨_, rfl, ?_⟩; have n0_ := ba_.mk (Kd.fd_ (Kd.hj_ (ga_.apart (show ga_ w0 _ g s0_0 x1001_3 from by repeat (first | (with_reducible first | exact HI0.out | apply ga_.alloc | apply ga_.drewN | apply ga_.drew | apply ga_.tc_) | exact HI0.out)) (Qk HO_6.out) Qc) hk (fun _ h => h.2)) (fun _ h => h.1)); have n1_ := ba_.mk (ra_.trans Qw hk (.inl rfl)); have n2_ := ba_.mk (hb); have n3_ := ba_.mk (hi); clear HO_6; clear HK; clear HB; clear HI0; have HO_6 := n0_; have HK := n1_; have HB := n2_; have HI0 := n3_; clear n0_ n1_ n2_ n3_; (try clear hb); (try clear hb2); (try clear hk); (try clear hi)))
         go_ret
         exact ⟨Qu, Q2, Q3, Qw⟩
        rw [if_pos c29] at H
        have c29b0 : (t349 == 1) = true := beq_iff_eq.mpr c29
        have c29b1 : (t349 != 1) = false := bne_eq_false_iff_eq.mpr c29
        clear c29
        obtain ⟨t351, A30, H⟩ := Qo H
        try dsimp only at H
        simp only [Option.some.injEq, Prod.mk.injEq] at H
        obtain ⟨rfl, rfl⟩ := H
        go_wp2_with (first | ((with_reducible refine va_ (f := 30) rfl ?_); refine lc_ (some 50) rfl rfl Tryz.func30 Qb rfl #[.pointer (some ⟨g, 0, none⟩), .int .i64 2] rfl Qm ?_; (with_reducible refine (oa_.calls g s0_0 x1001_3 2 t349 t350 w0 _ ?side1 ?side2 A28.out).mono ?_); (case side1 => exact Xd); (case side2 => exact Xe); rintro e w31 ⟨rfl, hi, hb, hk⟩; refine ⟨_, rfl, ?_⟩; have n0_ := ba_.mk (Kd.fd_ (Kd.hj_ (ga_.apart (show ga_ w0 _ g s0_0 x1001_3 from by repeat (first | (with_reducible first | exact HI0.out | apply ga_.alloc | apply ga_.drewN | apply ga_.drew | apply ga_.tc_) | exact HI0.out)) (Qk HO_6.out) Qc) hk (fun _ h => h.2)) (fun _ h => h.1)); have n1_ := ba_.mk (ra_.trans Qw hk (.inl rfl)); have n2_ := ba_.mk (hb); have n3_ := ba_.mk (hi); clear HO_6; clear HK; clear HB; clear HI0; have HO_6 := n0_; have HK := n1_; have HB := n2_; have HI0 := n3_; clear n0_ n1_ n2_ n3_; (try clear hb); (try clear hb2); (try clear hk); (try clear hi)) | ((with_reducible refine va_ (f := 20) rfl ?_); refine lc_ (some 53) rfl rfl Tryz.func20 Qb rfl #[.string x1_3] rfl Qm ?_; (with_reducible refine (wj_.calls x1_3 t351 _ A30.out).mono ?_); rintro e w32 ⟨rfl, hb⟩; refine ⟨_, rfl, ?_⟩; have n0_ := ba_.mk (Kd.be_ (Qk HO_6.out) hb); have n1_ := ba_.mk (ga_.below Q2 hb); have n2_ := ba_.mk (ra_.trans Qw (ra_.sf_ hb g none) (.inl rfl)); have n3_ := ba_.mk (hb_ Q3 hb); clear HO_6; clear HI0; clear HK; clear HB; have HO_6 := n0_; have HI0 := n1_; have HK := n2_; have HB := n3_; clear n0_ n1_ n2_ n3_; (try clear hb); (try clear hb2); (try clear hk); (try clear hi)))
        go_ret
        exact ⟨Qu, Q2, Q3, Qw⟩
       rw [if_pos c20] at H
       have c20b0 := decide_eq_true c20
       clear c20
       by_cases c21 : 0 ≤ x9_3
       rotate_left
       ·rw [if_neg c21] at H
        exact absurd H Qj
       rw [if_pos c21] at H
       have c21b0 := decide_eq_true c21
       clear c21
       by_cases c22 : x9_3 < (t339.length : Int)
       rotate_left
       ·rw [if_neg c22] at H
        exact absurd H Qj
       rw [if_pos c22] at H
       have c22b0 := decide_eq_true c22
       clear c22
       obtain ⟨⟨t346, t347⟩, A23, H⟩ := Qo H
       try dsimp only at H
       obtain ⟨t348, A24, H⟩ := Qo H
       try dsimp only at H
       have H' := ba_.mk H
       clear H
       try go_wp2
       have n0_ := ba_.mk (Kd.sb_ HO_6.out)
       have n1_ := ba_.mk (ga_.drew HI0.out)
       have n2_ := ba_.mk (qb_ HK.out)
       have n3_ := ba_.mk (ca_ HB.out)
       clear HO_6
       clear HI0
       clear HK
       clear HB
       have HO_6 := n0_
       have HI0 := n1_
       have HK := n2_
       have HB := n3_
       clear n0_ n1_ n2_ n3_
       obtain ⟨Ao26, co26, eo26⟩ := Kd.td_ HO_6.out
       (first | subst eo26 | (injection eo26 with f1_ f2_ f3_; have f4_ := f1_.symm; have f5_ := f3_.symm; clear f1_ f2_ f3_; subst f4_; subst f5_))
       have p345 : 0 ≤ (x9_3 : Int) := of_decide_eq_true Qi
       have q345 : x9_3 < (t339.length : Int) := of_decide_eq_true Qi
       obtain ⟨ad345, e345, hx345_0⟩ := Kd.ee_ (Kd.wb_ HO_6.out).2.2 x9_3 p345 q345
       cases e345
       replace p345 := eq_true p345
       replace q345 := eq_true q345
       refine ei_ (n := 13) (S := fun w' => w'.cell? (ad345.add (x9_3).toNat) = some (.int .i64 (rd t339 x9_3))) (ds := []) #[false, false, false, false, false, false, false, false, false, false, false, false, false] Qb rfl rfl (hx345_0) (fun hHeld => ?_); refine wh_ na_.tab13 na_.bits13 (fun HT_ HW_ => ?_)
       generalize wr.drew = w25 at HO_6 HI0 HK HB hx345_0 hHeld ⊢
       refine qc_ (i := 0) (N := some 37) (v := ?_) (a' := ?_) #[true, false, false, false, false, false, false, false, false, false, false, false, false] rfl rfl Qn Qe (Or.inl ⟨by rfl, ?_⟩) ?_ ?_
       rotate_left
       ·exact Qg
       rotate_left
       ·exact Qd
       refine qc_ (i := 1) (N := some 38) (v := ?_) (a' := ?_) #[true, true, false, false, false, false, false, false, false, false, false, false, false] rfl rfl Qn Qe (Or.inl ⟨by rfl, ?_⟩) ?_ ?_
       rotate_left
       ·exact Qg
       rotate_left
       ·exact Qd
       refine qc_ (i := 2) (N := some 39) (v := ?_) (a' := ?_) #[true, true, true, false, false, false, false, false, false, false, false, false, false] rfl rfl Qn Qe (Or.inl ⟨by rfl, ?_⟩) ?_ ?_
       rotate_left
       ·exact Qg
       rotate_left
       ·exact Qd
       refine qc_ (i := 3) (N := some 40) (v := ?_) (a' := ?_) #[true, true, true, true, false, false, false, false, false, false, false, false, false] rfl rfl Qn Qe (Or.inl ⟨by rfl, ?_⟩) ?_ ?_
       rotate_left
       ·exact Qg
       rotate_left
       ·exact Qd
       refine qc_ (i := 7) (N := some 44) (v := ?_) (a' := ?_) #[true, true, true, true, false, false, false, true, false, false, false, false, false] rfl rfl Qn Qe (Or.inl ⟨by rfl, ?_⟩) ?_ ?_
       rotate_left
       ·exact Qg
       rotate_left
       ·exact Qd
       refine qc_ (i := 10) (N := some 47) (v := ?_) (a' := ?_) #[true, true, true, true, false, false, false, true, false, false, true, false, false] rfl rfl Qn Qe (Or.inl ⟨by rfl, ?_⟩) ?_ ?_
       rotate_left
       ·exact Qg
       rotate_left
       ·exact Qd
       refine wf_ (i := 4) (N := some 41) (v := ?_) (a' := ?_) #[true, true, true, true, true, false, false, true, false, false, true, false, false] rfl rfl (ve_ HT_.out HW_.out Qb) Qe (Or.inl ⟨by rfl, ?_⟩) hHeld ?_ ?_
       rotate_left
       ·intro w' s0
        go_simp
        with_reducible rfl
       rotate_left
       ·exact Qd
       refine qc_ (i := 5) (N := some 42) (v := ?_) (a' := ?_) #[true, true, true, true, true, true, false, true, false, false, true, false, false] rfl rfl Qn Qe (Or.inl ⟨by rfl, ?_⟩) ?_ ?_
       rotate_left
       ·exact Qg
       rotate_left
       ·exact Qd
       refine qc_ (i := 6) (N := some 43) (v := ?_) (a' := ?_) #[true, true, true, true, true, true, true, true, false, false, true, false, false] rfl rfl Qn Qe (Or.inl ⟨by rfl, ?_⟩) ?_ ?_
       rotate_left
       ·exact Qg
       rotate_left
       ·exact Qd
       refine one_ (i := 8) (N := some 45) #[true, true, true, true, true, true, true, true, true, false, true, false, false] rfl rfl Qz Qc (fun K hK => ?_)
       refine zm_ Tryz.func30 Qb rfl #[.pointer (some ⟨g, 0, none⟩), .int .i64 5] (by rfl) rfl rfl Qm ?_
       with_reducible refine (oa_.calls g s0_0 x1001_3 5 t346 t347 w0 _ ?side1 ?side2 A23.out).mono ?_
       (case side1 => exact Xd)
       (case side2 => exact Xe)
       rintro e w27 ⟨rfl, hi, hb, hk⟩
       have HS0_ := vn_ hk (hHeld) (by first | (rw [za_]; exact Kd.tb_ (ga_.el_ HI0.out HO_6.out Qc)) | (show (Addr.add _ _).block ≠ _; rw [za_]; exact Kd.tb_ (ga_.el_ HI0.out HO_6.out Qc)) | exact Kd.tb_ (ga_.el_ HI0.out HO_6.out Qc))
       refine ⟨_, rfl, ?_⟩
       have n0_ := ba_.mk (Kd.fd_ (Kd.hj_ (ga_.apart (show ga_ w0 _ g s0_0 x1001_3 from by repeat (first | (with_reducible first | exact HI0.out | apply ga_.alloc | apply ga_.drewN | apply ga_.drew | apply ga_.tc_) | exact HI0.out)) (Qk HO_6.out) Qc) hk (fun _ h => h.2)) (fun _ h => h.1))
       have n1_ := ba_.mk (ra_.trans Qw hk (.inl rfl))
       have n2_ := ba_.mk (hb)
       have n3_ := ba_.mk (hi)
       clear HO_6
       clear HK
       clear HB
       clear HI0
       have HO_6 := n0_
       have HK := n1_
       have HB := n2_
       have HI0 := n3_
       clear n0_ n1_ n2_ n3_
       (try clear hb)
       (try clear hb2)
       (try clear hk)
       (try clear hi)
       refine hK.out _ _ (HS0_) (fun hHeld => ?_)
       clear hK K
       refine ug_ (a' := ?_) ?_ ?_
       rotate_left
       ·exact Yw
       refine qc_ (i := 9) (N := some 46) (v := ?_) (a' := ?_) #[true, true, true, true, true, true, true, true, true, true, true, false, false] rfl rfl Qn Qe (Or.inl ⟨by rfl, ?_⟩) ?_ ?_
       rotate_left
       ·exact Qg
       rotate_left
       ·exact Qd
       refine one_ (i := 11) (N := some 48) #[true, true, true, true, true, true, true, true, true, true, true, true, false] rfl rfl Qz Qc (fun K hK => ?_)
       refine zm_ Tryz.func48 Qb rfl #[.string x1_3, .int .i64 (wrap64 ((wrap64 (7 + (wrap64 (5 * (rd t339 x9_3))))) + t346)), .int .i64 x8_15] (by rfl) rfl rfl Qm ?_
       with_reducible refine (kb_.calls k3 x1_3 (wrap64 ((wrap64 (7 + (wrap64 (5 * (rd t339 x9_3))))) + t346)) x8_15 t348 _ A24.out).mono ?_
       rintro e w' ⟨rfl, ⟨nd, rfl⟩⟩
       refine ⟨_, rfl, ?_⟩
       refine hK.out _ _ (hHeld) (fun hHeld => ?_)
       clear hK K
       refine ug_ (a' := ?_) ?_ ?_
       rotate_left
       ·show Act.put _ (some 48) _ = _
        simp only [Act.put, List.setIfInBounds_toArray, List.set_cons_zero, List.set_cons_succ, yb_, ac_]
        rfl
       refine qc_ (i := 12) (N := some 1) (v := ?_) (a' := ?_) #[true, true, true, true, true, true, true, true, true, true, true, true, true] rfl rfl Qn Qe (Or.inl ⟨by rfl, ?_⟩) ?_ ?_
       rotate_left
       ·exact Qg
       rotate_left
       ·exact Qd
       refine yk_ Xt ?_
       try go_wp2
       go_roundg k3
       case measure => have := HK1.out; have := HJ15.out; have := HK3.out; omega
       case rel => exact ⟨(t348), (wrap64 (x9_3 + 1)), (t347), Ql, Ql, H', ⟨by have := HK1.out; have := HJ15.out; have := HK3.out; omega⟩, ⟨by (with_reducible repeat (first | apply Kd.bb_ | apply Kd.cb_ | apply Kd.sb_)); exact HO_6.out⟩, ⟨Q2⟩, ⟨Qw⟩, ⟨Q3⟩⟩
def uc_.f (k : Nat)  : Option (Bool) := (vj_.f 1 2 3 0).bind fun bt353 => ((kb_.f k bt353.1 20 0).bind fun t355 => ((ge_.f t355).bind fun bt356 => (if bt353.2 = 0 then (if bt356.2.2.2.2.2 = 0 then (if (bt356.1 == 1 && (bt356.2.1 == 2 && (bt356.2.2.1 == 3 && (bt356.2.2.2.1 == 0)))) = true then (some (bt356.2.2.2.2.1 == 1)) else (some false)) else (some false)) else (some false))))
theorem uc_.mono : ∀ k, LeO (uc_.f k ) (uc_.f (k + 1) ) := by
 intro  k
 unfold uc_.f
 have m0 := kb_.mono
 exact Qr
set_option maxHeartbeats 8000000 in
set_option maxRecDepth 100000 in
theorem uc_.calls (k : Nat)  (r : Bool) (w : World) (h : uc_.f k  = some r) (hr_ : r = true) :
  Calls Tryz.prog 17 #[] w fun e w' => e = .returned (.bool r) ∧ Below w.heap.size w w' := by
 have HRT := ba_.mk hr_
 clear hr_
 have hu38 := Tryz.underlying38
 have HB := ba_.mk (Below.refl w.heap.size w)
 have H : ((vj_.f 1 2 3 0).bind fun bt353 => ((kb_.f k bt353.1 20 0).bind fun t355 => ((ge_.f t355).bind fun bt356 => (if bt353.2 = 0 then (if bt356.2.2.2.2.2 = 0 then (if (bt356.1 == 1 && (bt356.2.1 == 2 && (bt356.2.2.1 == 3 && (bt356.2.2.2.1 == 0)))) = true then (some (bt356.2.2.2.2.1 == 1)) else (some false)) else (some false)) else (some false))))) = some r := h
 clear h
 obtain ⟨⟨t353, t354⟩, A1, H⟩ := Qo H
 try dsimp only at H
 obtain ⟨t355, A2, H⟩ := Qo H
 try dsimp only at H
 obtain ⟨⟨t356, t357, t358, t359, t360, t361⟩, A3, H⟩ := Qo H
 try dsimp only at H
 by_cases c4 : t354 = 0
 rotate_left
 ·rw [if_neg c4] at H
  have c4b0 : (t354 == 0) = false := beq_eq_false_iff_ne.mpr c4
  have c4b1 : (t354 != 0) = true := bne_iff_ne.mpr c4
  exact absurd ((Option.some.inj H).trans HRT.out) Qc
 rw [if_pos c4] at H
 have c4b0 : (t354 == 0) = true := beq_iff_eq.mpr c4
 have c4b1 : (t354 != 0) = false := bne_eq_false_iff_eq.mpr c4
 clear c4
 by_cases c5 : t361 = 0
 rotate_left
 ·rw [if_neg c5] at H
  have c5b0 : (t361 == 0) = false := beq_eq_false_iff_ne.mpr c5
  have c5b1 : (t361 != 0) = true := bne_iff_ne.mpr c5
  exact absurd ((Option.some.inj H).trans HRT.out) Qc
 rw [if_pos c5] at H
 have c5b0 : (t361 == 0) = true := beq_iff_eq.mpr c5
 have c5b1 : (t361 != 0) = false := bne_eq_false_iff_eq.mpr c5
 clear c5
 by_cases c6 : (t356 == 1 && (t357 == 2 && (t358 == 3 && (t359 == 0)))) = true
 rotate_left
 ·rw [if_neg c6] at H
  have c6b0 : (t356 == 1 && (t357 == 2 && (t358 == 3 && (t359 == 0)))) = false := by simpa using c6
  (try (have c6b1 : decide (t356 = 1 && (t357 == 2 && (t358 == 3 && (t359 == 0)))) = false := by simpa using c6))
  (try (have c6b2 : (t356 == 1 && (t357 == 2 && (t358 == 3 && (t359 == 0)))) = false := by simpa using c6))
  (try (have c6b3 : ¬ (t356 = 1 && (t357 == 2 && (t358 == 3 && (t359 == 0)))) := by simpa using c6))
  clear c6
  exact absurd ((Option.some.inj H).trans HRT.out) Qc
 rw [if_pos c6] at H
 have c6b0 : (t356 == 1 && (t357 == 2 && (t358 == 3 && (t359 == 0)))) = true := c6
 (try (have c6b1 : decide (t356 = 1 && (t357 == 2 && (t358 == 3 && (t359 == 0)))) = true := by simpa using c6))
 (try (have c6b2 : (t356 == 1 && (t357 == 2 && (t358 == 3 && (t359 == 0)))) = true := by simpa using c6))
 clear c6
 obtain rfl := Option.some.inj H
 go_enter Tryz.func17, Tryz.ntmps17
 go_wp2_with (first | ((with_reducible refine ld_ (N := 1) rfl ?_); refine de_ ?hg (N := 1) ?hd (cs := #[.int .i64 0, .int .i64 0, .int .i64 0, .int .i64 0]) (t := 38) ?hr ?_; (case hd => rfl); (case hg => rfl); (case hr => exact Qt); intro gb352 hg w7 hbox hb; have n0_ := ba_.mk (hb_ Qh hb); have n1_ := ba_.mk (hbox); have n2_ := ba_.mk ((by rw [hg]; exact (pb_ Qh) : w.heap.size ≤ gb352)); have n3_ := ba_.mk ((by rw [hg]; exact (pb_ Qh) : w.heap.size ≤ gb352)); clear HB; have HB := n0_; have BK352 := n1_; have GW352 := n2_; have GE352 := n3_; clear n0_ n1_ n2_ n3_; clear hb hbox hg; have hcz8_0 : w7.cell? ⟨gb352, 0, none⟩ = some (.int .i64 0) := (la_ BK352.out 0).trans rfl; have hcz8_1 : w7.cell? ⟨gb352, 1, none⟩ = some (.int .i64 0) := (la_ BK352.out 1).trans rfl; have hcz8_2 : w7.cell? ⟨gb352, 2, none⟩ = some (.int .i64 0) := (la_ BK352.out 2).trans rfl; have hcz8_3 : w7.cell? ⟨gb352, 3, none⟩ = some (.int .i64 0) := (la_ BK352.out 3).trans rfl; have hfz8_0 := ja_ BK352.out 0; have hfz8_1 := ja_ BK352.out 1; have hfz8_2 := ja_ BK352.out 2; have hfz8_3 := ja_ BK352.out 3) | ((with_reducible refine va_ (f := 11) rfl ?_); refine lc_ (some 10) rfl rfl Tryz.func11 Qb rfl #[.agg #[.int .i64 1, .int .i64 2, .int .i64 3, .int .i64 0]] rfl Qm ?_; (with_reducible refine (vj_.calls 1 2 3 0 t353 t354 _ A1.out).mono ?_); rintro e w9 ⟨rfl, hb⟩; refine ⟨_, rfl, ?_⟩; have n0_ := ba_.mk (pc_ (g := gb352) (o := .cells #[.int .i64 1, .int .i64 2, .int .i64 3, .int .i64 0] 38 (0, 0)) (by (with_reducible repeat (first | refine ia_ ?_ _ | refine ma_ ?_ | refine ha_ ?_ _)); refine sc_ (cs := #[.int .i64 1, .int .i64 2, .int .i64 3, .int .i64 0]) ?_ 3 _ rfl; (with_reducible repeat (first | refine ia_ ?_ _ | refine ma_ ?_ | refine ha_ ?_ _)); refine sc_ (cs := #[.int .i64 1, .int .i64 2, .int .i64 0, .int .i64 0]) ?_ 2 _ rfl; (with_reducible repeat (first | refine ia_ ?_ _ | refine ma_ ?_ | refine ha_ ?_ _)); refine sc_ (cs := #[.int .i64 1, .int .i64 0, .int .i64 0, .int .i64 0]) ?_ 1 _ rfl; (with_reducible repeat (first | refine ia_ ?_ _ | refine ma_ ?_ | refine ha_ ?_ _)); refine sc_ (cs := #[.int .i64 0, .int .i64 0, .int .i64 0, .int .i64 0]) ?_ 0 _ rfl; (with_reducible repeat (first | refine ia_ ?_ _ | refine ma_ ?_ | refine ha_ ?_ _)); exact BK352.out) hb); have n1_ := ba_.mk (hb_ Yd hb); clear BK352; clear HB; have BK352 := n0_; have HB := n1_; clear n0_ n1_; (try clear hb); (try clear hb2); (try clear hk); (try clear hi)) | ((with_reducible refine va_ (f := 48) rfl ?_); refine lc_ (some 15) rfl rfl Tryz.func48 Qb rfl #[.string t353, .int .i64 20, .int .i64 0] rfl Qm ?_; (with_reducible refine (kb_.calls k t353 20 0 t355 _ A2.out).mono ?_); rintro e w' ⟨rfl, ⟨nd, rfl⟩⟩; refine ⟨_, rfl, ?_⟩; (try (rw [js_ w9]; generalize hq_ : World.drewN w9 _ = w9; have n0_ : ba_ (w9.heap[gb352]? = some (.cells #[.int .i64 1, .int .i64 2, .int .i64 3, .int .i64 0] 38 (0, 0))) := ⟨by rw [← hq_]; exact (Qf BK352.out)⟩; have n1_ : ba_ (Below w.heap.size w w9) := ⟨by rw [← hq_]; exact Yd⟩; clear BK352 HB hq_; have BK352 := n0_; have HB := n1_; clear n0_ n1_))) | ((with_reducible refine va_ (f := 15) rfl ?_); refine lc_ (some 16) rfl rfl Tryz.func15 Qb rfl #[.string t355] rfl Qm ?_; (with_reducible refine (ge_.calls t355 t356 t357 t358 t359 t360 t361 _ A3.out).mono ?_); rintro e w10 ⟨rfl, hb⟩; refine ⟨_, rfl, ?_⟩; have n0_ := ba_.mk (pc_ (g := gb352) (o := .cells #[.int .i64 1, .int .i64 2, .int .i64 3, .int .i64 0] 38 (0, 0)) (Qf BK352.out) hb); have n1_ := ba_.mk (hb_ Yd hb); clear BK352; clear HB; have BK352 := n0_; have HB := n1_; clear n0_ n1_; (try clear hb); (try clear hb2); (try clear hk); (try clear hi)) | ((with_reducible refine ld_ (N := 4) rfl ?_); refine de_ ?hg (N := 4) ?hd (cs := #[.int .i64 0, .int .i64 0, .int .i64 0, .int .i64 0]) (t := 38) ?hr ?_; (case hd => rfl); (case hg => rfl); (case hr => exact Qt); intro gb362 hg w11 hbox hb; have n0_ := ba_.mk (pc_ (g := gb352) (o := .cells #[.int .i64 1, .int .i64 2, .int .i64 3, .int .i64 0] 38 (0, 0)) (Qf BK352.out) hb); have n1_ := ba_.mk (hb_ Yd hb); have n2_ := ba_.mk (hbox); have n3_ := ba_.mk ((by rw [hg]; exact (pb_ Yd) : w.heap.size ≤ gb362)); have n4_ := ba_.mk ((by rw [hg]; exact (pb_ Yd) : w.heap.size ≤ gb362)); have n5_ := ba_.mk ((by rw [hg]; exact Nat.ne_of_lt (bg_ (g := gb352) (o := .cells #[.int .i64 1, .int .i64 2, .int .i64 3, .int .i64 0] 38 (0, 0)) (Qf BK352.out)) : gb352 ≠ gb362)); have n6_ := ba_.mk ((by rw [hg]; exact Nat.ne_of_gt (bg_ (g := gb352) (o := .cells #[.int .i64 1, .int .i64 2, .int .i64 3, .int .i64 0] 38 (0, 0)) (Qf BK352.out)) : gb362 ≠ gb352)); clear BK352; clear HB; have BK352 := n0_; have HB := n1_; have BK362 := n2_; have GW362 := n3_; have GE362 := n4_; have NB352_362 := n5_; have NB362_352 := n6_; clear n0_ n1_ n2_ n3_ n4_ n5_ n6_; clear hb hbox hg; have hnb12 := NB362_352.out; have hnc12 := NB352_362.out; have hcz13_0 : w11.cell? ⟨gb362, 0, none⟩ = some (.int .i64 0) := (la_ BK362.out 0).trans rfl; have hcz13_1 : w11.cell? ⟨gb362, 1, none⟩ = some (.int .i64 0) := (la_ BK362.out 1).trans rfl; have hcz13_2 : w11.cell? ⟨gb362, 2, none⟩ = some (.int .i64 0) := (la_ BK362.out 2).trans rfl; have hcz13_3 : w11.cell? ⟨gb362, 3, none⟩ = some (.int .i64 0) := (la_ BK362.out 3).trans rfl; have hfz13_0 := ja_ BK362.out 0; have hfz13_1 := ja_ BK362.out 1; have hfz13_2 := ja_ BK362.out 2; have hfz13_3 := ja_ BK362.out 3; have hcz14_0 : w11.cell? ⟨gb352, 0, none⟩ = some (.int .i64 1) := (la_ BK352.out 0).trans rfl; have hcz14_1 : w11.cell? ⟨gb352, 1, none⟩ = some (.int .i64 2) := (la_ BK352.out 1).trans rfl; have hcz14_2 : w11.cell? ⟨gb352, 2, none⟩ = some (.int .i64 3) := (la_ BK352.out 2).trans rfl; have hcz14_3 : w11.cell? ⟨gb352, 3, none⟩ = some (.int .i64 0) := (la_ BK352.out 3).trans rfl; have hfz14_0 := ja_ BK352.out 0; have hfz14_1 := ja_ BK352.out 1; have hfz14_2 := ja_ BK352.out 2; have hfz14_3 := ja_ BK352.out 3))
 go_ret
 exact ⟨Qu, by repeat (first | (with_reducible first | exact HB.out | apply da_ | apply aa_ | apply ca_ | refine fa_ ?_ GE352.out | refine fa_ ?_ GE362.out) | exact HB.out)⟩
end Go.Proofs.YtpkhgapifnjbeaaGreatDoor.TL
end
section
namespace Go.Proofs.YtpkhgapifnjbeaaGreatDoor.TL
open RowKit G Rs Zw.PrintWords Zw.PrintLast Zw.PrintMore
attribute [local go_sem] pd_ rd_ yd_ zd_ dd_ ed_ qd_ sd_
attribute [local go_sem high] eqA38
mutual
def qa_.l0 : Nat → List (S38) → List (List Int) → Int → List Int → Int → Option (Bool)
 | 0, _, _, _, _, _ => none
 | k + 1, x4, x5, x6, x366000, x366001 => if x6 < (x4.length : Int) then (if 0 ≤ x6 then ((vj_.f ((qe_ x4 x6).f0) ((qe_ x4 x6).f1) ((qe_ x4 x6).f2) ((qe_ x4 x6).f3)).bind fun bt382 => ((mi_.f bt382.1).bind fun bt384 => (if bt382.2 = 0 then (if bt384.2 = 0 then (if (bt382.1.size : Int) = 74 then ((qr_.f bt384.1).bind fun t388 => (qa_.j1 k x4 x5 x6 bt382.1 bt384.1 (!t388) x366000 x366001)) else (qa_.j1 k x4 x5 x6 bt382.1 bt384.1 true x366000 x366001)) else (qa_.j1 k x4 x5 x6 bt382.1 bt384.1 true x366000 x366001)) else (qa_.j1 k x4 x5 x6 bt382.1 bt384.1 true x366000 x366001)))) else (none)) else ((uc_.f k).bind fun t380 => (some t380))
def qa_.j1 : Nat → List (S38) → List (List Int) → Int → ByteArray → List Int → Bool → List Int → Int → Option (Bool)
 | 0, _, _, _, _, _, _, _, _ => none
 | k + 1, x4, x5, x6, x7, x9, x54, x366000, x366001 => if x54 = true then (some false) else (qa_.l1 k x4 x5 x6 x7 x9 0 x366000 x366001)
def qa_.l1 : Nat → List (S38) → List (List Int) → Int → ByteArray → List Int → Int → List Int → Int → Option (Bool)
 | 0, _, _, _, _, _, _, _, _ => none
 | k + 1, x4, x5, x6, x7, x9, x11, x366000, x366001 => if x11 < (x5.length : Int) then (if 0 ≤ x11 then ((mc_.f k x9 (kf_ x5 x11)).bind fun t390 => (if t390 < 7 then (some false) else (qa_.l1 k x4 x5 x6 x7 x9 (wrap64 (x11 + 1)) x366000 x366001))) else (none)) else (if x5.length < 5864062014805 then ((na_.f k x366000 x366001 x7).bind fun bt394 => ((ge_.f bt394.1).bind fun bt396 => (if bt396.2.2.2.2.2 = 0 then (if 0 ≤ x6 then (if x6 < (x4.length : Int) then (if (!(bt396.1 == ((qe_ x4 x6).f0)) || (!(bt396.2.1 == ((qe_ x4 x6).f1)) || (!(bt396.2.2.1 == ((qe_ x4 x6).f2)) || (!(bt396.2.2.2.1 == ((qe_ x4 x6).f3)))))) = true then (some false) else (qa_.l0 k x4 (x5 ++ [x9]) (wrap64 (x6 + 1)) x366000 bt394.2)) else (none)) else (none)) else (some false)))) else (none))
end
def qa_.f (k : Nat) (l0 : List Int) : Option (Bool) := (ke_.f l0).bind fun bt363 => ((ka_.f k bt363.1 bt363.2 0).bind fun bt366 => ((nb_.f k bt366.1 bt366.2.1 bt366.2.2.1 bt366.2.2.2.1).bind fun t377 => (qa_.l0 k t377 ([] : List (List Int)) 0 bt363.1 bt366.2.2.2.2)))
theorem qa_.nd_ : ∀ k, (∀ y0 y1 y2 y3 y4, LeO (qa_.l0 k y0 y1 y2 y3 y4) (qa_.l0 (k + 1) y0 y1 y2 y3 y4)) ∧ (∀ y0 y1 y2 y3 y4 y5 y6 y7, LeO (qa_.j1 k y0 y1 y2 y3 y4 y5 y6 y7) (qa_.j1 (k + 1) y0 y1 y2 y3 y4 y5 y6 y7)) ∧ (∀ y0 y1 y2 y3 y4 y5 y6 y7, LeO (qa_.l1 k y0 y1 y2 y3 y4 y5 y6 y7) (qa_.l1 (k + 1) y0 y1 y2 y3 y4 y5 y6 y7))
 | 0 => ⟨fun _ _ _ _ _ r h => by simp [qa_.l0] at h, fun _ _ _ _ _ _ _ _ r h => by simp [qa_.j1] at h, fun _ _ _ _ _ _ _ _ r h => by simp [qa_.l1] at h⟩
 | k + 1 => by
  obtain ⟨ih0, ih1, ih2⟩ := qa_.nd_ k
  refine ⟨?_, ?_, ?_⟩
  ·intro y0 y1 y2 y3 y4
   unfold qa_.l0
   have m0 := ka_.mono
   have m1 := uc_.mono
   have m2 := na_.mono
   have m3 := nb_.mono
   have m4 := mc_.mono
   exact Qr
  ·intro y0 y1 y2 y3 y4 y5 y6 y7
   unfold qa_.j1
   have m0 := ka_.mono
   have m1 := uc_.mono
   have m2 := na_.mono
   have m3 := nb_.mono
   have m4 := mc_.mono
   exact Qr
  intro y0 y1 y2 y3 y4 y5 y6 y7
  unfold qa_.l1
  have m0 := ka_.mono
  have m1 := uc_.mono
  have m2 := na_.mono
  have m3 := nb_.mono
  have m4 := mc_.mono
  exact Qr
theorem qa_.mono : ∀ a0 k, LeO (qa_.f k a0) (qa_.f (k + 1) a0) := by
 intro a0 k
 obtain ⟨ih0, ih1, ih2⟩ := qa_.nd_ k
 unfold qa_.f
 have m0 := ka_.mono
 have m1 := uc_.mono
 have m2 := na_.mono
 have m3 := nb_.mono
 have m4 := mc_.mono
 exact Qr
set_option maxHeartbeats 8000000 in
set_option maxRecDepth 100000 in
theorem qa_.calls (k : Nat) (A0 : Option Addr) (c0 : Nat) (l0 : List Int) (r : Bool) (w : World) (hr0 : Kd.C (Kd.int .i64) w A0 l0.length l0) (hc0 : l0.length ≤ c0) (h : qa_.f k l0 = some r) (hr_ : r = true) :
  Calls Tryz.prog 3 #[.slice A0 l0.length c0] w fun e w' => e = .returned (.bool r) ∧ Below w.heap.size w w' := by
 have HRT := ba_.mk hr_
 clear hr_
 have hu38 := Tryz.underlying38
 have HR0 := ba_.mk hr0
 have HC0 := ba_.mk hc0
 clear hr0 hc0
 have HB := ba_.mk (Below.refl w.heap.size w)
 have H : ((ke_.f l0).bind fun bt363 => ((ka_.f k bt363.1 bt363.2 0).bind fun bt366 => ((nb_.f k bt366.1 bt366.2.1 bt366.2.2.1 bt366.2.2.2.1).bind fun t377 => (qa_.l0 k t377 ([] : List (List Int)) 0 bt363.1 bt366.2.2.2.2)))) = some r := h
 clear h
 obtain ⟨⟨t363, t364⟩, A2, H⟩ := Qo H
 try dsimp only at H
 obtain ⟨⟨t366, t367, t370, t373, t376⟩, A3, H⟩ := Qo H
 try dsimp only at H
 obtain ⟨t377, A4, H⟩ := Qo H
 try dsimp only at H
 have H' := ba_.mk H
 clear H
 go_enter Tryz.func3, Tryz.ntmps3
 go_wp2_with (first | (go_at_call 8; (with_reducible refine (ke_.calls _ _ l0 t363 t364 w _ ?side1 ?side2 ?side3 A2.out).mono ?_); (case side1 => repeat (first | (with_reducible first | exact HB.out | apply da_ | apply aa_ | apply ca_) | exact HB.out)); (case side2 => exact HR0.out); (case side3 => exact HC0.out); rintro e w5 ⟨g365, rfl, hi, hb, hb2⟩; have n0_ := ba_.mk (hb); have n1_ := ba_.mk (hi); clear HB; have HB := n0_; have HI365 := n1_; clear n0_ n1_; (try clear hb); (try clear hb2); (try clear hk); (try clear hi)) | (go_at_call 10; (with_reducible refine (ka_.calls k g365 t363 t364 0 t366 t367 t370 t373 t376 w _ ?side1 ?side2 A3.out).mono ?_); (case side1 => exact X2); (case side2 => exact X3); rintro e w6 ⟨v368, v371, v374, rfl, ho0, ho1, ho2, hi, hb, hk⟩; have n0_ := ba_.mk (Kd.gj_ (Kd.yc_ (ok' := fun k_ => some k_ ≠ (v371 : Value).ownBlock ∧ some k_ ≠ (v374 : Value).ownBlock ∧ k_ ≠ g365) ho0 (fun k_ hk_ => ⟨hk_.2.1, hk_.2.2, (ga_.fresh Qy k_ hk_.1)⟩)) (pb_ Qs)); have n1_ := ba_.mk (Kd.gj_ (Kd.yc_ (ok' := fun k_ => some k_ ≠ (v368 : Value).ownBlock ∧ some k_ ≠ (v374 : Value).ownBlock ∧ k_ ≠ g365) ho1 (fun k_ hk_ => ⟨hk_.2.1, hk_.2.2, (ga_.fresh Qy k_ hk_.1)⟩)) (pb_ Qs)); have n2_ := ba_.mk (Kd.xd_ (Kd.fd_ (ok' := fun k_ => True) ho2 (fun _ hk_ => trivial)) (pb_ Qs)); have n3_ := ba_.mk (hb); have n4_ := ba_.mk (hi); clear HB; clear HI365; have HO369 := n0_; have HO372 := n1_; have HO375 := n2_; have HB := n3_; have HI365 := n4_; clear n0_ n1_ n2_ n3_ n4_; (try clear hb); (try clear hb2); (try clear hk); (try clear hi); (try clear ho0); (try clear ho1); (try clear ho2); obtain ⟨Ao7, co7, eo7⟩ := Kd.og_ HO369.out; subst eo7; obtain ⟨Ao8, co8, eo8⟩ := Kd.og_ HO372.out; subst eo8; obtain ⟨Ao9, co9, eo9⟩ := Kd.td_ HO375.out; subst eo9) | (go_at_call 9; (with_reducible refine (nb_.calls k t366 _ _ t367 _ _ t370 _ _ t373 t377 _ ?side1 ?side2 ?side3 ?side4 ?side5 ?side6 A4.out).mono ?_); (case side1 => repeat (first | exact (Kd.dg_ HO369.out).2.2 | (with_reducible refine Kd.zc_ ?_ _) | (with_reducible refine Kd.ad_ ?_ _) | (with_reducible refine Kd.od_ ?_))); (case side2 => exact (Kd.dg_ HO369.out).2.1); (case side3 => repeat (first | exact (Kd.dg_ HO372.out).2.2 | (with_reducible refine Kd.zc_ ?_ _) | (with_reducible refine Kd.ad_ ?_ _) | (with_reducible refine Kd.od_ ?_))); (case side4 => exact (Kd.dg_ HO372.out).2.1); (case side5 => repeat (first | exact (Kd.wb_ HO375.out).2.2 | (with_reducible refine Kd.zc_ ?_ _) | (with_reducible refine Kd.ad_ ?_ _) | (with_reducible refine Kd.od_ ?_))); (case side6 => exact (Kd.wb_ HO375.out).2.1); rintro e w10 ⟨v378, rfl, ho0, hb⟩; have n0_ := ba_.mk (Kd.te_ (Qp HO369.out) (Kd.cf_ ho0) hb); have n1_ := ba_.mk (Kd.te_ (Qp HO372.out) (Kd.cf_ ho0) hb); have n2_ := ba_.mk (Kd.be_ (Qk HO375.out) hb); have n3_ := ba_.mk (Kd.xd_ ho0 (pb_ Qs)); have n4_ := ba_.mk (ga_.below Qy hb); have n5_ := ba_.mk (hb_ Qs hb); clear HO369; clear HO372; clear HO375; clear HI365; clear HB; have HO369 := n0_; have HO372 := n1_; have HO375 := n2_; have HO379 := n3_; have HI365 := n4_; have HB := n5_; clear n0_ n1_ n2_ n3_ n4_ n5_; (try clear hb); (try clear hb2); (try clear hk); (try clear hi); (try clear ho0)))
 repeat (go_quiet (first | (go_at_call 8; (with_reducible refine (ke_.calls _ _ l0 t363 t364 w _ ?side1 ?side2 ?side3 A2.out).mono ?_); (case side1 => repeat (first | (with_reducible first | exact HB.out | apply da_ | apply aa_ | apply ca_) | exact HB.out)); (case side2 => exact HR0.out); (case side3 => exact HC0.out); rintro e w5 ⟨g365, rfl, hi, hb, hb2⟩; have n0_ := ba_.mk (hb); have n1_ := ba_.mk (hi); clear HB; have HB := n0_; have HI365 := n1_; clear n0_ n1_; (try clear hb); (try clear hb2); (try clear hk); (try clear hi)) | (go_at_call 10; (with_reducible refine (ka_.calls k g365 t363 t364 0 t366 t367 t370 t373 t376 w _ ?side1 ?side2 A3.out).mono ?_); (case side1 => exact X2); (case side2 => exact X3); rintro e w6 ⟨v368, v371, v374, rfl, ho0, ho1, ho2, hi, hb, hk⟩; have n0_ := ba_.mk (Kd.gj_ (Kd.yc_ (ok' := fun k_ => some k_ ≠ (v371 : Value).ownBlock ∧ some k_ ≠ (v374 : Value).ownBlock ∧ k_ ≠ g365) ho0 (fun k_ hk_ => ⟨hk_.2.1, hk_.2.2, (ga_.fresh Qy k_ hk_.1)⟩)) (pb_ Qs)); have n1_ := ba_.mk (Kd.gj_ (Kd.yc_ (ok' := fun k_ => some k_ ≠ (v368 : Value).ownBlock ∧ some k_ ≠ (v374 : Value).ownBlock ∧ k_ ≠ g365) ho1 (fun k_ hk_ => ⟨hk_.2.1, hk_.2.2, (ga_.fresh Qy k_ hk_.1)⟩)) (pb_ Qs)); have n2_ := ba_.mk (Kd.xd_ (Kd.fd_ (ok' := fun k_ => True) ho2 (fun _ hk_ => trivial)) (pb_ Qs)); have n3_ := ba_.mk (hb); have n4_ := ba_.mk (hi); clear HB; clear HI365; have HO369 := n0_; have HO372 := n1_; have HO375 := n2_; have HB := n3_; have HI365 := n4_; clear n0_ n1_ n2_ n3_ n4_; (try clear hb); (try clear hb2); (try clear hk); (try clear hi); (try clear ho0); (try clear ho1); (try clear ho2); obtain ⟨Ao7, co7, eo7⟩ := Kd.og_ HO369.out; subst eo7; obtain ⟨Ao8, co8, eo8⟩ := Kd.og_ HO372.out; subst eo8; obtain ⟨Ao9, co9, eo9⟩ := Kd.td_ HO375.out; subst eo9) | (go_at_call 9; (with_reducible refine (nb_.calls k t366 _ _ t367 _ _ t370 _ _ t373 t377 _ ?side1 ?side2 ?side3 ?side4 ?side5 ?side6 A4.out).mono ?_); (case side1 => repeat (first | exact (Kd.dg_ HO369.out).2.2 | (with_reducible refine Kd.zc_ ?_ _) | (with_reducible refine Kd.ad_ ?_ _) | (with_reducible refine Kd.od_ ?_))); (case side2 => exact (Kd.dg_ HO369.out).2.1); (case side3 => repeat (first | exact (Kd.dg_ HO372.out).2.2 | (with_reducible refine Kd.zc_ ?_ _) | (with_reducible refine Kd.ad_ ?_ _) | (with_reducible refine Kd.od_ ?_))); (case side4 => exact (Kd.dg_ HO372.out).2.1); (case side5 => repeat (first | exact (Kd.wb_ HO375.out).2.2 | (with_reducible refine Kd.zc_ ?_ _) | (with_reducible refine Kd.ad_ ?_ _) | (with_reducible refine Kd.od_ ?_))); (case side6 => exact (Kd.wb_ HO375.out).2.1); rintro e w10 ⟨v378, rfl, ho0, hb⟩; have n0_ := ba_.mk (Kd.te_ (Qp HO369.out) (Kd.cf_ ho0) hb); have n1_ := ba_.mk (Kd.te_ (Qp HO372.out) (Kd.cf_ ho0) hb); have n2_ := ba_.mk (Kd.be_ (Qk HO375.out) hb); have n3_ := ba_.mk (Kd.xd_ ho0 (pb_ Qs)); have n4_ := ba_.mk (ga_.below Qy hb); have n5_ := ba_.mk (hb_ Qs hb); clear HO369; clear HO372; clear HO375; clear HI365; clear HB; have HO369 := n0_; have HO372 := n1_; have HO375 := n2_; have HO379 := n3_; have HI365 := n4_; have HB := n5_; clear n0_ n1_ n2_ n3_ n4_ n5_; (try clear hb); (try clear hb2); (try clear hk); (try clear hi); (try clear ho0))); try go_wp2_with (first | (go_at_call 8; (with_reducible refine (ke_.calls _ _ l0 t363 t364 w _ ?side1 ?side2 ?side3 A2.out).mono ?_); (case side1 => repeat (first | (with_reducible first | exact HB.out | apply da_ | apply aa_ | apply ca_) | exact HB.out)); (case side2 => exact HR0.out); (case side3 => exact HC0.out); rintro e w5 ⟨g365, rfl, hi, hb, hb2⟩; have n0_ := ba_.mk (hb); have n1_ := ba_.mk (hi); clear HB; have HB := n0_; have HI365 := n1_; clear n0_ n1_; (try clear hb); (try clear hb2); (try clear hk); (try clear hi)) | (go_at_call 10; (with_reducible refine (ka_.calls k g365 t363 t364 0 t366 t367 t370 t373 t376 w _ ?side1 ?side2 A3.out).mono ?_); (case side1 => exact X2); (case side2 => exact X3); rintro e w6 ⟨v368, v371, v374, rfl, ho0, ho1, ho2, hi, hb, hk⟩; have n0_ := ba_.mk (Kd.gj_ (Kd.yc_ (ok' := fun k_ => some k_ ≠ (v371 : Value).ownBlock ∧ some k_ ≠ (v374 : Value).ownBlock ∧ k_ ≠ g365) ho0 (fun k_ hk_ => ⟨hk_.2.1, hk_.2.2, (ga_.fresh Qy k_ hk_.1)⟩)) (pb_ Qs)); have n1_ := ba_.mk (Kd.gj_ (Kd.yc_ (ok' := fun k_ => some k_ ≠ (v368 : Value).ownBlock ∧ some k_ ≠ (v374 : Value).ownBlock ∧ k_ ≠ g365) ho1 (fun k_ hk_ => ⟨hk_.2.1, hk_.2.2, (ga_.fresh Qy k_ hk_.1)⟩)) (pb_ Qs)); have n2_ := ba_.mk (Kd.xd_ (Kd.fd_ (ok' := fun k_ => True) ho2 (fun _ hk_ => trivial)) (pb_ Qs)); have n3_ := ba_.mk (hb); have n4_ := ba_.mk (hi); clear HB; clear HI365; have HO369 := n0_; have HO372 := n1_; have HO375 := n2_; have HB := n3_; have HI365 := n4_; clear n0_ n1_ n2_ n3_ n4_; (try clear hb); (try clear hb2); (try clear hk); (try clear hi); (try clear ho0); (try clear ho1); (try clear ho2); obtain ⟨Ao7, co7, eo7⟩ := Kd.og_ HO369.out; subst eo7; obtain ⟨Ao8, co8, eo8⟩ := Kd.og_ HO372.out; subst eo8; obtain ⟨Ao9, co9, eo9⟩ := Kd.td_ HO375.out; subst eo9) | (go_at_call 9; (with_reducible refine (nb_.calls k t366 _ _ t367 _ _ t370 _ _ t373 t377 _ ?side1 ?side2 ?side3 ?side4 ?side5 ?side6 A4.out).mono ?_); (case side1 => repeat (first | exact (Kd.dg_ HO369.out).2.2 | (with_reducible refine Kd.zc_ ?_ _) | (with_reducible refine Kd.ad_ ?_ _) | (with_reducible refine Kd.od_ ?_))); (case side2 => exact (Kd.dg_ HO369.out).2.1); (case side3 => repeat (first | exact (Kd.dg_ HO372.out).2.2 | (with_reducible refine Kd.zc_ ?_ _) | (with_reducible refine Kd.ad_ ?_ _) | (with_reducible refine Kd.od_ ?_))); (case side4 => exact (Kd.dg_ HO372.out).2.1); (case side5 => repeat (first | exact (Kd.wb_ HO375.out).2.2 | (with_reducible refine Kd.zc_ ?_ _) | (with_reducible refine Kd.ad_ ?_ _) | (with_reducible refine Kd.od_ ?_))); (case side6 => exact (Kd.wb_ HO375.out).2.1); rintro e w10 ⟨v378, rfl, ho0, hb⟩; have n0_ := ba_.mk (Kd.te_ (Qp HO369.out) (Kd.cf_ ho0) hb); have n1_ := ba_.mk (Kd.te_ (Qp HO372.out) (Kd.cf_ ho0) hb); have n2_ := ba_.mk (Kd.be_ (Qk HO375.out) hb); have n3_ := ba_.mk (Kd.xd_ ho0 (pb_ Qs)); have n4_ := ba_.mk (ga_.below Qy hb); have n5_ := ba_.mk (hb_ Qs hb); clear HO369; clear HO372; clear HO375; clear HI365; clear HB; have HO369 := n0_; have HO372 := n1_; have HO375 := n2_; have HO379 := n3_; have HI365 := n4_; have HB := n5_; clear n0_ n1_ n2_ n3_ n4_ n5_; (try clear hb); (try clear hb2); (try clear hk); (try clear hi); (try clear ho0))))
 go_loopg [5, 6] k (fun kq v5 v6 w' => ∃ (x5_1 : List (List Int)) (x6_1 : Int) (x366001_1 : Int), v6 = .int .i64 x6_1 ∧ ba_ (qa_.l0 kq t377 x5_1 x6_1 t363 x366001_1 = some r) ∧ ba_ (kq ≤ k) ∧ ba_ (Kd.R k38 38 w' w.heap.size (fun _ => True) v378 t377) ∧ ba_ (Kd.N (Kd.slice 3 (Kd.int .i64)) 22 w' w.heap.size (fun k_ => some k_ ≠ (v378 : Value).ownBlock ∧ k_ ≠ g365) v5 x5_1) ∧ ba_ (ga_ w w' g365 t363 x366001_1) ∧ ba_ (Below w.heap.size w w'))
 case atStart => exact ⟨(([] : List (List Int))), (0), (t376), Ql, H', ⟨Nat.le_refl _⟩, ⟨by (with_reducible repeat (first | apply Kd.bb_ | apply Kd.cb_ | apply Kd.sb_)); exact HO379.out⟩, ⟨Yo⟩, ⟨Qy⟩, ⟨Qs⟩⟩
 case round =>
  clear H'
  try clear p2
  try clear c3
  obtain ⟨x5_1, x6_1, x366001_1, rfl, HA, HK1, HO_4, HO_5, HI365, HB⟩ := hrel
  cases gk with
  | zero => exact absurd HA.out (by simp [qa_.l0])
  | succ k1 =>
   have H := HA.out
   clear HA
   simp only [qa_.l0] at H
   by_cases c11 : x6_1 < (t377.length : Int)
   rotate_left
   ·rw [if_neg c11] at H
    have c11b0 := decide_eq_false c11
    clear c11
    obtain ⟨t380, A65, H⟩ := Qo H
    try dsimp only at H
    obtain rfl := Option.some.inj H
    obtain ⟨Ao66, co66, eo66⟩ := Kd.td_ HO_4.out
    subst eo66
    go_wp2_with (first | (go_at_call 17; (with_reducible refine (uc_.calls k1  t380 _ A65.out HRT.out).mono ?_); rintro e w67 ⟨rfl, hb⟩; have n0_ := ba_.mk (Kd.be_ (Qk HO_4.out) hb); have n1_ := ba_.mk (Kd.xf_ (Qp HO_5.out) hb); have n2_ := ba_.mk (ga_.below Qy hb); have n3_ := ba_.mk (hb_ Qs hb); clear HO_4; clear HO_5; clear HI365; clear HB; have HO_4 := n0_; have HO_5 := n1_; have HI365 := n2_; have HB := n3_; clear n0_ n1_ n2_ n3_; (try clear hb); (try clear hb2); (try clear hk); (try clear hi)))
    repeat (go_quiet (first | (go_at_call 17; (with_reducible refine (uc_.calls k1  t380 _ A65.out HRT.out).mono ?_); rintro e w67 ⟨rfl, hb⟩; have n0_ := ba_.mk (Kd.be_ (Qk HO_4.out) hb); have n1_ := ba_.mk (Kd.xf_ (Qp HO_5.out) hb); have n2_ := ba_.mk (ga_.below Qy hb); have n3_ := ba_.mk (hb_ Qs hb); clear HO_4; clear HO_5; clear HI365; clear HB; have HO_4 := n0_; have HO_5 := n1_; have HI365 := n2_; have HB := n3_; clear n0_ n1_ n2_ n3_; (try clear hb); (try clear hb2); (try clear hk); (try clear hi))); try go_wp2_with (first | (go_at_call 17; (with_reducible refine (uc_.calls k1  t380 _ A65.out HRT.out).mono ?_); rintro e w67 ⟨rfl, hb⟩; have n0_ := ba_.mk (Kd.be_ (Qk HO_4.out) hb); have n1_ := ba_.mk (Kd.xf_ (Qp HO_5.out) hb); have n2_ := ba_.mk (ga_.below Qy hb); have n3_ := ba_.mk (hb_ Qs hb); clear HO_4; clear HO_5; clear HI365; clear HB; have HO_4 := n0_; have HO_5 := n1_; have HI365 := n2_; have HB := n3_; clear n0_ n1_ n2_ n3_; (try clear hb); (try clear hb2); (try clear hk); (try clear hi))))
    go_ret
    exact ⟨Qu, Qs⟩
   rw [if_pos c11] at H
   have c11b0 := decide_eq_true c11
   clear c11
   obtain ⟨c12, H⟩ := Qq H
   have c12b0 := decide_eq_true c12
   clear c12
   obtain ⟨⟨t382, t383⟩, A13, H⟩ := Qo H
   try dsimp only at H
   obtain ⟨⟨t384, t385⟩, A14, H⟩ := Qo H
   try dsimp only at H
   have HC15 := ba_.mk H
   clear H
   obtain ⟨Ao16, co16, eo16⟩ := Kd.td_ HO_4.out
   subst eo16
   have p381 : 0 ≤ (x6_1 : Int) := of_decide_eq_true Qi
   have q381 : x6_1 < (t377.length : Int) := of_decide_eq_true Qi
   obtain ⟨ad381, e381, hx381_0, hx381_1, hx381_2, hx381_3⟩ := ey_ (Kd.wb_ HO_4.out).2.2 x6_1 p381 q381
   cases e381
   replace p381 := eq_true p381
   replace q381 := eq_true q381
   go_upto_region 9 with (first | (go_at_call 11; (with_reducible refine (vj_.calls ((qe_ t377 x6_1).f0) ((qe_ t377 x6_1).f1) ((qe_ t377 x6_1).f2) ((qe_ t377 x6_1).f3) t382 t383 _ A13.out).mono ?_); rintro e w17 ⟨rfl, hb⟩; have n0_ := ba_.mk (Kd.be_ (Qk HO_4.out) hb); have n1_ := ba_.mk (Kd.xf_ (Qp HO_5.out) hb); have n2_ := ba_.mk (ga_.below Qy hb); have n3_ := ba_.mk (hb_ Qs hb); clear HO_4; clear HO_5; clear HI365; clear HB; have HO_4 := n0_; have HO_5 := n1_; have HI365 := n2_; have HB := n3_; clear n0_ n1_ n2_ n3_; (try clear hb); (try clear hb2); (try clear hk); (try clear hi)) | (go_at_call 12; (with_reducible refine (mi_.calls t382 t384 t385 _ A14.out).mono ?_); rintro e w18 ⟨v386, rfl, ho0, hb⟩; have n0_ := ba_.mk (Kd.be_ (Qk HO_4.out) hb); have n1_ := ba_.mk (Kd.te_ (Qp HO_5.out) (Kd.cf_ ho0) hb); have n2_ := ba_.mk (Kd.xd_ ho0 (pb_ Qs)); have n3_ := ba_.mk (ga_.below Qy hb); have n4_ := ba_.mk (hb_ Qs hb); clear HO_4; clear HO_5; clear HI365; clear HB; have HO_4 := n0_; have HO_5 := n1_; have HO387 := n2_; have HI365 := n3_; have HB := n4_; clear n0_ n1_ n2_ n3_ n4_; (try clear hb); (try clear hb2); (try clear hk); (try clear hi); (try clear ho0)))
   repeat (go_quiet (first | (go_at_call 11; (with_reducible refine (vj_.calls ((qe_ t377 x6_1).f0) ((qe_ t377 x6_1).f1) ((qe_ t377 x6_1).f2) ((qe_ t377 x6_1).f3) t382 t383 _ A13.out).mono ?_); rintro e w17 ⟨rfl, hb⟩; have n0_ := ba_.mk (Kd.be_ (Qk HO_4.out) hb); have n1_ := ba_.mk (Kd.xf_ (Qp HO_5.out) hb); have n2_ := ba_.mk (ga_.below Qy hb); have n3_ := ba_.mk (hb_ Qs hb); clear HO_4; clear HO_5; clear HI365; clear HB; have HO_4 := n0_; have HO_5 := n1_; have HI365 := n2_; have HB := n3_; clear n0_ n1_ n2_ n3_; (try clear hb); (try clear hb2); (try clear hk); (try clear hi)) | (go_at_call 12; (with_reducible refine (mi_.calls t382 t384 t385 _ A14.out).mono ?_); rintro e w18 ⟨v386, rfl, ho0, hb⟩; have n0_ := ba_.mk (Kd.be_ (Qk HO_4.out) hb); have n1_ := ba_.mk (Kd.te_ (Qp HO_5.out) (Kd.cf_ ho0) hb); have n2_ := ba_.mk (Kd.xd_ ho0 (pb_ Qs)); have n3_ := ba_.mk (ga_.below Qy hb); have n4_ := ba_.mk (hb_ Qs hb); clear HO_4; clear HO_5; clear HI365; clear HB; have HO_4 := n0_; have HO_5 := n1_; have HO387 := n2_; have HI365 := n3_; have HB := n4_; clear n0_ n1_ n2_ n3_ n4_; (try clear hb); (try clear hb2); (try clear hk); (try clear hi); (try clear ho0))); go_upto_region 9 with (first | (go_at_call 11; (with_reducible refine (vj_.calls ((qe_ t377 x6_1).f0) ((qe_ t377 x6_1).f1) ((qe_ t377 x6_1).f2) ((qe_ t377 x6_1).f3) t382 t383 _ A13.out).mono ?_); rintro e w17 ⟨rfl, hb⟩; have n0_ := ba_.mk (Kd.be_ (Qk HO_4.out) hb); have n1_ := ba_.mk (Kd.xf_ (Qp HO_5.out) hb); have n2_ := ba_.mk (ga_.below Qy hb); have n3_ := ba_.mk (hb_ Qs hb); clear HO_4; clear HO_5; clear HI365; clear HB; have HO_4 := n0_; have HO_5 := n1_; have HI365 := n2_; have HB := n3_; clear n0_ n1_ n2_ n3_; (try clear hb); (try clear hb2); (try clear hk); (try clear hi)) | (go_at_call 12; (with_reducible refine (mi_.calls t382 t384 t385 _ A14.out).mono ?_); rintro e w18 ⟨v386, rfl, ho0, hb⟩; have n0_ := ba_.mk (Kd.be_ (Qk HO_4.out) hb); have n1_ := ba_.mk (Kd.te_ (Qp HO_5.out) (Kd.cf_ ho0) hb); have n2_ := ba_.mk (Kd.xd_ ho0 (pb_ Qs)); have n3_ := ba_.mk (ga_.below Qy hb); have n4_ := ba_.mk (hb_ Qs hb); clear HO_4; clear HO_5; clear HI365; clear HB; have HO_4 := n0_; have HO_5 := n1_; have HO387 := n2_; have HI365 := n3_; have HB := n4_; clear n0_ n1_ n2_ n3_ n4_; (try clear hb); (try clear hb2); (try clear hk); (try clear hi); (try clear ho0))))
   (try simp only [Act.put, List.setIfInBounds_toArray, List.set_cons_zero, List.set_cons_succ])
   go_cut [54] (fun v54 wc => ∃ (kq : Nat) (x54_14 : Bool), v54 = .bool x54_14 ∧ ba_ (qa_.j1 kq t377 x5_1 x6_1 t382 t384 x54_14 t363 x366001_1 = some r) ∧ ba_ (kq ≤ k1) ∧ ba_ (Kd.R k38 38 wc w.heap.size (fun _ => True) (.slice (some ad381) t377.length co16) t377) ∧ ba_ (Kd.N (Kd.slice 3 (Kd.int .i64)) 22 wc w.heap.size (fun k_ => some k_ ≠ ((.slice (some ad381) t377.length co16) : Value).ownBlock ∧ some k_ ≠ (v386 : Value).ownBlock ∧ k_ ≠ g365) u5 x5_1) ∧ ba_ (Kd.R (Kd.int .i64) 3 wc w.heap.size (fun _ => True) v386 t384) ∧ ba_ (ga_ w wc g365 t363 x366001_1) ∧ ba_ (Below w.heap.size w wc))
   case first =>
    have H := HC15.out
    clear HC15
    by_cases c19 : t383 = 0
    rotate_left
    ·rw [if_neg c19] at H
     have c19b0 : (t383 == 0) = false := beq_eq_false_iff_ne.mpr c19
     have c19b1 : (t383 != 0) = true := bne_iff_ne.mpr c19
     (first | rw [c19b0] | (simp only [yb_, ac_]; rw [c19b0]) | skip)
     have H' := ba_.mk H
     clear H
     go_wp2
     repeat (go_quiet (fail); try go_wp2)
     go_meet
     case rel => exact ⟨_, (true), Ql, H', ⟨Yc⟩, ⟨Ye⟩, ⟨Qaf⟩, ⟨Qag⟩, ⟨Qy⟩, ⟨Qs⟩⟩
    rw [if_pos c19] at H
    have c19b0 : (t383 == 0) = true := beq_iff_eq.mpr c19
    have c19b1 : (t383 != 0) = false := bne_eq_false_iff_eq.mpr c19
    clear c19
    (first | rw [c19b0] | (simp only [yb_, ac_]; rw [c19b0]) | skip)
    by_cases c20 : t385 = 0
    rotate_left
    ·rw [if_neg c20] at H
     have c20b0 : (t385 == 0) = false := beq_eq_false_iff_ne.mpr c20
     have c20b1 : (t385 != 0) = true := bne_iff_ne.mpr c20
     have H' := ba_.mk H
     clear H
     go_wp2
     repeat (go_quiet (fail); try go_wp2)
     go_meet
     case rel => exact ⟨_, (true), Ql, H', ⟨Yc⟩, ⟨Ye⟩, ⟨Qaf⟩, ⟨Qag⟩, ⟨Qy⟩, ⟨Qs⟩⟩
    rw [if_pos c20] at H
    have c20b0 : (t385 == 0) = true := beq_iff_eq.mpr c20
    have c20b1 : (t385 != 0) = false := bne_eq_false_iff_eq.mpr c20
    clear c20
    by_cases c21 : (t382.size : Int) = 74
    rotate_left
    ·rw [if_neg c21] at H
     have c21b0 : ((t382.size : Int) == 74) = false := beq_eq_false_iff_ne.mpr c21
     have c21b1 : ((t382.size : Int) != 74) = true := bne_iff_ne.mpr c21
     have H' := ba_.mk H
     clear H
     go_wp2
     repeat (go_quiet (fail); try go_wp2)
     go_meet
     case rel => exact ⟨_, (true), Ql, H', ⟨Yc⟩, ⟨Ye⟩, ⟨Qaf⟩, ⟨Qag⟩, ⟨Qy⟩, ⟨Qs⟩⟩
    rw [if_pos c21] at H
    have c21b0 : ((t382.size : Int) == 74) = true := beq_iff_eq.mpr c21
    have c21b1 : ((t382.size : Int) != 74) = false := bne_eq_false_iff_eq.mpr c21
    clear c21
    obtain ⟨t388, A22, H⟩ := Qo H
    try dsimp only at H
    have H' := ba_.mk H
    clear H
    obtain ⟨Ao23, co23, eo23⟩ := Kd.td_ HO387.out
    subst eo23
    go_wp2_with (first | (go_at_call 13; (with_reducible refine (qr_.calls _ _ t384 t388 _ ?side1 ?side2 A22.out).mono ?_); (case side1 => repeat (first | exact (Kd.wb_ HO387.out).2.2 | (with_reducible refine Kd.zc_ ?_ _) | (with_reducible refine Kd.ad_ ?_ _) | (with_reducible refine Kd.od_ ?_))); (case side2 => exact (Kd.wb_ HO387.out).2.1); rintro e w24 ⟨rfl, hb⟩; have n0_ := ba_.mk (Kd.be_ (Qk HO_4.out) hb); have n1_ := ba_.mk (Kd.xf_ (Qp HO_5.out) hb); have n2_ := ba_.mk (Kd.be_ (Qk HO387.out) hb); have n3_ := ba_.mk (ga_.below Qy hb); have n4_ := ba_.mk (hb_ Qs hb); clear HO_4; clear HO_5; clear HO387; clear HI365; clear HB; have HO_4 := n0_; have HO_5 := n1_; have HO387 := n2_; have HI365 := n3_; have HB := n4_; clear n0_ n1_ n2_ n3_ n4_; (try clear hb); (try clear hb2); (try clear hk); (try clear hi)))
    repeat (go_quiet (first | (go_at_call 13; (with_reducible refine (qr_.calls _ _ t384 t388 _ ?side1 ?side2 A22.out).mono ?_); (case side1 => repeat (first | exact (Kd.wb_ HO387.out).2.2 | (with_reducible refine Kd.zc_ ?_ _) | (with_reducible refine Kd.ad_ ?_ _) | (with_reducible refine Kd.od_ ?_))); (case side2 => exact (Kd.wb_ HO387.out).2.1); rintro e w24 ⟨rfl, hb⟩; have n0_ := ba_.mk (Kd.be_ (Qk HO_4.out) hb); have n1_ := ba_.mk (Kd.xf_ (Qp HO_5.out) hb); have n2_ := ba_.mk (Kd.be_ (Qk HO387.out) hb); have n3_ := ba_.mk (ga_.below Qy hb); have n4_ := ba_.mk (hb_ Qs hb); clear HO_4; clear HO_5; clear HO387; clear HI365; clear HB; have HO_4 := n0_; have HO_5 := n1_; have HO387 := n2_; have HI365 := n3_; have HB := n4_; clear n0_ n1_ n2_ n3_ n4_; (try clear hb); (try clear hb2); (try clear hk); (try clear hi))); try go_wp2_with (first | (go_at_call 13; (with_reducible refine (qr_.calls _ _ t384 t388 _ ?side1 ?side2 A22.out).mono ?_); (case side1 => repeat (first | exact (Kd.wb_ HO387.out).2.2 | (with_reducible refine Kd.zc_ ?_ _) | (with_reducible refine Kd.ad_ ?_ _) | (with_reducible refine Kd.od_ ?_))); (case side2 => exact (Kd.wb_ HO387.out).2.1); rintro e w24 ⟨rfl, hb⟩; have n0_ := ba_.mk (Kd.be_ (Qk HO_4.out) hb); have n1_ := ba_.mk (Kd.xf_ (Qp HO_5.out) hb); have n2_ := ba_.mk (Kd.be_ (Qk HO387.out) hb); have n3_ := ba_.mk (ga_.below Qy hb); have n4_ := ba_.mk (hb_ Qs hb); clear HO_4; clear HO_5; clear HO387; clear HI365; clear HB; have HO_4 := n0_; have HO_5 := n1_; have HO387 := n2_; have HI365 := n3_; have HB := n4_; clear n0_ n1_ n2_ n3_ n4_; (try clear hb); (try clear hb2); (try clear hk); (try clear hi))))
    go_meet
    case rel => exact ⟨_, (!t388), Ql, H', ⟨Yc⟩, ⟨Ye⟩, ⟨Qaf⟩, ⟨Qag⟩, ⟨Qy⟩, ⟨Qs⟩⟩
   case rest =>
    clear HC15
    try clear c1
    try clear c2
    try clear p2
    try clear c3
    try clear p3
    try clear q3
    try clear hx3
    try clear c11
    try clear c11b0
    try clear c12
    try clear c12b0
    try clear c19
    try clear c19b0
    try clear c19b1
    try clear c20
    try clear c20b0
    try clear c20b1
    try clear c21
    try clear c21b0
    try clear c21b1
    try clear hx381_0
    try clear hx381_1
    try clear hx381_2
    try clear hx381_3
    try clear p2
    try clear p381
    try clear q381
    obtain ⟨kq, x54_14, rfl, HA, HJ14, HO_4, HO_5, HO_9, HI365, HB⟩ := hcut
    cases kq with
    | zero => exact absurd HA.out (by simp [qa_.j1])
    | succ kj14 =>
     have H := HA.out
     clear HA
     simp only [qa_.j1] at H
     by_cases c25 : x54_14 = true
     ·subst c25
      have H1 : (some false) = some r := by rw [if_pos rfl] at H; exact H
      clear H
      have H := H1
      clear H1
      exact absurd ((Option.some.inj H).trans HRT.out) Qc
     replace c25 := Bool.eq_false_iff.mpr c25
     subst c25
     have H1 : (qa_.l1 kj14 t377 x5_1 x6_1 t382 t384 0 t363 x366001_1) = some r := by rw [if_neg (show ¬ (false = true) by decide)] at H; exact H
     clear H
     have H := H1
     clear H1
     have H' := ba_.mk H
     clear H
     go_wp2
     repeat (go_quiet (fail); try go_wp2)
     go_loopg [11] kj14 (fun kq v11 w' => ∃ (x11_3 : Int), v11 = .int .i64 x11_3 ∧ ba_ (qa_.l1 kq t377 x5_1 x6_1 t382 t384 x11_3 t363 x366001_1 = some r) ∧ ba_ (kq ≤ kj14) ∧ ba_ (Kd.R k38 38 w' w.heap.size (fun _ => True) (.slice (some ad381) t377.length co16) t377) ∧ ba_ (Kd.N (Kd.slice 3 (Kd.int .i64)) 22 w' w.heap.size (fun k_ => some k_ ≠ ((.slice (some ad381) t377.length co16) : Value).ownBlock ∧ some k_ ≠ (v386 : Value).ownBlock ∧ k_ ≠ g365) u5 x5_1) ∧ ba_ (Kd.R (Kd.int .i64) 3 w' w.heap.size (fun _ => True) v386 t384) ∧ ba_ (ga_ w w' g365 t363 x366001_1) ∧ ba_ (Below w.heap.size w w'))
     case atStart => exact ⟨(0), Ql, H', ⟨Nat.le_refl _⟩, ⟨Ye⟩, ⟨by (with_reducible repeat (first | apply Kd.cc_ | apply Kd.dc_ | apply Kd.oc_)); exact HO_5.out⟩, ⟨by (with_reducible repeat (first | apply Kd.bb_ | apply Kd.cb_ | apply Kd.sb_)); exact HO_9.out⟩, ⟨Qy⟩, ⟨Qs⟩⟩
     case round =>
      clear H'
      try clear c1
      try clear c2
      try clear p2
      try clear c3
      try clear p3
      try clear q3
      try clear hx3
      try clear c11
      try clear c11b0
      try clear c12
      try clear c12b0
      try clear c19
      try clear c19b0
      try clear c19b1
      try clear c20
      try clear c20b0
      try clear c20b1
      try clear c21
      try clear c21b0
      try clear c21b1
      try clear c25
      try clear hx381_0
      try clear hx381_1
      try clear hx381_2
      try clear hx381_3
      try clear p2
      try clear p3
      try clear p381
      try clear q3
      try clear q381
      obtain ⟨x11_3, rfl, HA, HK3, HO_4, HO_5, HO_9, HI365, HB⟩ := hrel
      cases gk with
      | zero => exact absurd HA.out (by simp [qa_.l1])
      | succ k3 =>
       have H := HA.out
       clear HA
       simp only [qa_.l1] at H
       by_cases c26 : x11_3 < (x5_1.length : Int)
       ·rw [if_pos c26] at H
        have c26b0 := decide_eq_true c26
        clear c26
        obtain ⟨c27, H⟩ := Qq H
        have c27b0 := decide_eq_true c27
        clear c27
        obtain ⟨t390, A28, H⟩ := Qo H
        try dsimp only at H
        by_cases c29 : t390 < 7
        ·rw [if_pos c29] at H
         have c29b0 := decide_eq_true c29
         clear c29
         exact absurd ((Option.some.inj H).trans HRT.out) Qc
        rw [if_neg c29] at H
        have c29b0 := decide_eq_false c29
        clear c29
        have H' := ba_.mk H
        clear H
        obtain ⟨Ao32, co32, eo32⟩ := Kd.og_ HO_5.out
        subst eo32
        have p389 : 0 ≤ (x11_3 : Int) := of_decide_eq_true Qi
        have q389 : x11_3 < (x5_1.length : Int) := of_decide_eq_true Qi
        obtain ⟨ad389, A389_0, c389_0, e389, hx389_0, hl389_0, hi389_0⟩ := tz_ (Kd.dg_ HO_5.out).2.2 x11_3 p389 q389
        cases e389
        obtain ⟨ce389, hce389, hMe389, hcc389⟩ := Kd.N_get HO_5.out [] x11_3 p389 (by first | exact q389 | exact of_decide_eq_true Qi | (have e_ := (Kd.dg_ HO_5.out).1; omega))
        obtain ⟨ua389_0, uc389_0, rfl, ul389_0, ge389_0⟩ := Kd.dt_ hMe389
        have hv389_0 := hcc389 0 _ rfl
        rw [Nat.add_zero, show ((Kd.slice 3 (Kd.int .i64))).sz = 1 from rfl, Nat.mul_one] at hv389_0
        replace hv389_0 := Option.some.inj (hv389_0.symm.trans hx389_0)
        injection hv389_0 with hva_ hvn_ hvc_
        rw [hva_] at ge389_0
        rw [hvc_] at ul389_0
        have HL389_0 := ba_.mk (show Kd.V (Kd.int .i64) 3 _ w.heap.size _ _ (kf_ x5_1 x11_3) from Kd.V_mk ul389_0 ge389_0)
        clear hva_ hvn_ hvc_ ge389_0 ul389_0
        clear hcc389 hce389
        have HR389_0 := ba_.mk hi389_0
        have HC389_0 := ba_.mk hl389_0
        clear hi389_0 hl389_0
        replace p389 := eq_true p389
        replace q389 := eq_true q389
        obtain ⟨Ao33, co33, eo33⟩ := Kd.td_ HO_9.out
        subst eo33
        go_wp2_with (first | (go_at_call 14; (with_reducible refine (mc_.calls k3 _ _ t384 _ _ (kf_ x5_1 x11_3) t390 _ ?side1 ?side2 ?side3 ?side4 A28.out).mono ?_); (case side1 => repeat (first | exact (Kd.wb_ HO_9.out).2.2 | (with_reducible refine Kd.zc_ ?_ _) | (with_reducible refine Kd.ad_ ?_ _) | (with_reducible refine Kd.od_ ?_))); (case side2 => exact (Kd.wb_ HO_9.out).2.1); (case side3 => repeat (first | exact (by repeat (first | (with_reducible exact HR389_0.out) | (with_reducible refine Kd.zc_ ?_ _) | (with_reducible refine Kd.ad_ ?_ _) | (with_reducible refine Kd.od_ ?_) | exact HR389_0.out)) | (with_reducible refine Kd.zc_ ?_ _) | (with_reducible refine Kd.ad_ ?_ _) | (with_reducible refine Kd.od_ ?_))); (case side4 => exact HC389_0.out); rintro e w' ⟨rfl, ⟨nd, rfl⟩⟩; (try first | exact ⟨rfl, _, World.drewN_drewN _ _ _⟩ | exact ⟨rfl, _, Eq.trans (World.drewN_drewN _ _ _) (congrArg (World.drewN _) (Nat.add_assoc _ _ _))⟩)))
        repeat (go_quiet (first | (go_at_call 14; (with_reducible refine (mc_.calls k3 _ _ t384 _ _ (kf_ x5_1 x11_3) t390 _ ?side1 ?side2 ?side3 ?side4 A28.out).mono ?_); (case side1 => repeat (first | exact (Kd.wb_ HO_9.out).2.2 | (with_reducible refine Kd.zc_ ?_ _) | (with_reducible refine Kd.ad_ ?_ _) | (with_reducible refine Kd.od_ ?_))); (case side2 => exact (Kd.wb_ HO_9.out).2.1); (case side3 => repeat (first | exact (by repeat (first | (with_reducible exact HR389_0.out) | (with_reducible refine Kd.zc_ ?_ _) | (with_reducible refine Kd.ad_ ?_ _) | (with_reducible refine Kd.od_ ?_) | exact HR389_0.out)) | (with_reducible refine Kd.zc_ ?_ _) | (with_reducible refine Kd.ad_ ?_ _) | (with_reducible refine Kd.od_ ?_))); (case side4 => exact HC389_0.out); rintro e w' ⟨rfl, ⟨nd, rfl⟩⟩; (try first | exact ⟨rfl, _, World.drewN_drewN _ _ _⟩ | exact ⟨rfl, _, Eq.trans (World.drewN_drewN _ _ _) (congrArg (World.drewN _) (Nat.add_assoc _ _ _))⟩))); try go_wp2_with (first | (go_at_call 14; (with_reducible refine (mc_.calls k3 _ _ t384 _ _ (kf_ x5_1 x11_3) t390 _ ?side1 ?side2 ?side3 ?side4 A28.out).mono ?_); (case side1 => repeat (first | exact (Kd.wb_ HO_9.out).2.2 | (with_reducible refine Kd.zc_ ?_ _) | (with_reducible refine Kd.ad_ ?_ _) | (with_reducible refine Kd.od_ ?_))); (case side2 => exact (Kd.wb_ HO_9.out).2.1); (case side3 => repeat (first | exact (by repeat (first | (with_reducible exact HR389_0.out) | (with_reducible refine Kd.zc_ ?_ _) | (with_reducible refine Kd.ad_ ?_ _) | (with_reducible refine Kd.od_ ?_) | exact HR389_0.out)) | (with_reducible refine Kd.zc_ ?_ _) | (with_reducible refine Kd.ad_ ?_ _) | (with_reducible refine Kd.od_ ?_))); (case side4 => exact HC389_0.out); rintro e w' ⟨rfl, ⟨nd, rfl⟩⟩; (try first | exact ⟨rfl, _, World.drewN_drewN _ _ _⟩ | exact ⟨rfl, _, Eq.trans (World.drewN_drewN _ _ _) (congrArg (World.drewN _) (Nat.add_assoc _ _ _))⟩))))
        go_roundg k3
        case measure => have := HK1.out; have := HJ14.out; have := HK3.out; omega
        case rel => exact ⟨(wrap64 (x11_3 + 1)), Ql, H', ⟨by have := HK1.out; have := HJ14.out; have := HK3.out; omega⟩, ⟨Ye⟩, ⟨by (with_reducible repeat (first | apply Kd.cc_ | apply Kd.dc_ | apply Kd.oc_)); exact HO_5.out⟩, ⟨by (with_reducible repeat (first | apply Kd.bb_ | apply Kd.cb_ | apply Kd.sb_)); exact HO_9.out⟩, ⟨Qy⟩, ⟨Qs⟩⟩
       rw [if_neg c26] at H
       have c26b0 := decide_eq_false c26
       clear c26
       by_cases c34 : x5_1.length < 5864062014805
       rotate_left
       ·rw [if_neg c34] at H
        exact absurd H Qj
       rw [if_pos c34] at H
       have LMc34 := ba_.mk c34
       clear c34
       obtain ⟨y391, hy391⟩ : ∃ y_ : List (List Int), y_ = (x5_1 ++ [t384]) := ⟨_, rfl⟩
       replace H : ((na_.f k3 t363 x366001_1 t382).bind fun bt394 => ((ge_.f bt394.1).bind fun bt396 => (if bt396.2.2.2.2.2 = 0 then (if 0 ≤ x6_1 then (if x6_1 < (t377.length : Int) then (if (!(bt396.1 == ((qe_ t377 x6_1).f0)) || (!(bt396.2.1 == ((qe_ t377 x6_1).f1)) || (!(bt396.2.2.1 == ((qe_ t377 x6_1).f2)) || (!(bt396.2.2.2.1 == ((qe_ t377 x6_1).f3)))))) = true then (some false) else (qa_.l0 k3 t377 y391 (wrap64 (x6_1 + 1)) t363 bt394.2)) else (none)) else (none)) else (some false)))) = some r := by first | (rw [hy391]; with_reducible exact H) | (have H2_ := (Option.bind_some _ _).symm.trans H; rw [hy391]; with_reducible exact H2_) | (have H2_ := (Option.bind_some _ _).symm.trans H; with_reducible exact H2_) | with_reducible exact H | (rw [hy391]; exact H) | exact H
       have Ny391 := ba_.mk hy391
       clear hy391
       obtain ⟨⟨t394, t395⟩, A35, H⟩ := Qo H
       try dsimp only at H
       obtain ⟨⟨t396, t397, t398, t399, t400, t401⟩, A36, H⟩ := Qo H
       try dsimp only at H
       by_cases c37 : t401 = 0
       rotate_left
       ·rw [if_neg c37] at H
        have c37b0 : (t401 == 0) = false := beq_eq_false_iff_ne.mpr c37
        have c37b1 : (t401 != 0) = true := bne_iff_ne.mpr c37
        exact absurd ((Option.some.inj H).trans HRT.out) Qc
       rw [if_pos c37] at H
       have c37b0 : (t401 == 0) = true := beq_iff_eq.mpr c37
       have c37b1 : (t401 != 0) = false := bne_eq_false_iff_eq.mpr c37
       clear c37
       obtain ⟨c38, H⟩ := Qq H
       have c38b0 := decide_eq_true c38
       clear c38
       by_cases c39 : x6_1 < (t377.length : Int)
       rotate_left
       ·rw [if_neg c39] at H
        exact absurd H Qj
       rw [if_pos c39] at H
       have c39b0 := decide_eq_true c39
       clear c39
       by_cases c40 : (!(t396 == ((qe_ t377 x6_1).f0)) || (!(t397 == ((qe_ t377 x6_1).f1)) || (!(t398 == ((qe_ t377 x6_1).f2)) || (!(t399 == ((qe_ t377 x6_1).f3)))))) = true
       ·rw [if_pos c40] at H
        have c40b0 : (!(t396 == ((qe_ t377 x6_1).f0)) || (!(t397 == ((qe_ t377 x6_1).f1)) || (!(t398 == ((qe_ t377 x6_1).f2)) || (!(t399 == ((qe_ t377 x6_1).f3)))))) = true := c40
        clear c40
        exact absurd ((Option.some.inj H).trans HRT.out) Qc
       rw [if_neg c40] at H
       have c40b0 : (!(t396 == ((qe_ t377 x6_1).f0)) || (!(t397 == ((qe_ t377 x6_1).f1)) || (!(t398 == ((qe_ t377 x6_1).f2)) || (!(t399 == ((qe_ t377 x6_1).f3)))))) = false := by simpa using c40
       clear c40
       have H' := ba_.mk H
       clear H
       obtain ⟨Ao49, co49, eo49⟩ := Kd.og_ HO_5.out
       subst eo49
       obtain ⟨Ao51, co51, eo51⟩ := Kd.td_ HO_9.out
       subst eo51
       go_wp2_with (first | ((with_reducible refine md_ (b := .append) (xs := #[.tmp 68, .tmp 70]) rfl ?_); (try (refine ih_ (by rfl) ?_; dsimp only)); at_builtin; refine Kd.et_ (Kd.slice 3 (Kd.int .i64)) (w0 := w) w.heap.size rfl (.tmp 68) (.tmp 70) 33 22 (.slice none 0 0) 24 rfl Tryz.underlying33 uq_ rfl Qc Qa (.slice Ao49 x5_1.length co49) x5_1 t384 [.slice Ao51 t384.length co51] (fun k_ => some k_ ≠ (.slice (some ad381) t377.length co16 : Value).ownBlock ∧ k_ ≠ g365) (fun k_ => ((fun k_ => some k_ ≠ (.slice (some ad381) t377.length co16 : Value).ownBlock ∧ k_ ≠ g365)) k_ ∧ some k_ ≠ (.slice Ao49 x5_1.length co49 : Value).ownBlock) rfl rfl ?aP (fun _ hk => hk) ?aF ?aO ?aB ?aS ?aL ?_; (case aP => exact (Kd.tm_ (Kd.wb_ (Kd.fd_ (ok' := (fun k_ => ((fun k_ => some k_ ≠ (.slice (some ad381) t377.length co16 : Value).ownBlock ∧ k_ ≠ g365)) k_ ∧ some k_ ≠ (.slice Ao49 x5_1.length co49 : Value).ownBlock)) (ga_.apart HI365.out (Kd.ne_ (Kd.ne_ (HO_9.out) (Kd.lk_ HO_4.out) Qc) (Kd.lg_ HO_5.out) Qc) Qc) (fun k_ hk => ⟨⟨hk.1.1.2, hk.2⟩, hk.1.2⟩))).2.1 (Kd.R_F (Kd.fd_ (ok' := (fun k_ => ((fun k_ => some k_ ≠ (.slice (some ad381) t377.length co16 : Value).ownBlock ∧ k_ ≠ g365)) k_ ∧ some k_ ≠ (.slice Ao49 x5_1.length co49 : Value).ownBlock)) (ga_.apart HI365.out (Kd.ne_ (Kd.ne_ (HO_9.out) (Kd.lk_ HO_4.out) Qc) (Kd.lg_ HO_5.out) Qc) Qc) (fun k_ hk => ⟨⟨hk.1.1.2, hk.2⟩, hk.1.2⟩))))); (case aB => exact Qs); (case aF => exact (fun k_ hk => ⟨Kd.fresh' (Kd.R_lt (Qk HO_4.out)) k_ hk, ga_.fresh Qy k_ hk⟩)); (case aO => exact (by (with_reducible repeat (first | apply Kd.cc_ | apply Kd.dc_ | apply Kd.oc_)); exact Kd.yc_ HO_5.out (fun _ hk => ⟨hk.1, hk.2.2⟩))); (case aS => exact (pb_ Qs)); (case aL => have := LMc34.out; omega); intro v392 w50 ho hb hg hat; rw [← Ny391.out] at ho; have n0_ := ba_.mk (Kd.um_ (Qk HO_4.out) (Kd.lg_ (Qp HO_5.out)) Qc hg); have n1_ := ba_.mk (ga_.grown Qy hg (ga_.dn_ HI365.out HO_5.out Qc)); have n2_ := ba_.mk (hb); have n3_ := ba_.mk (ho); clear HO_4; clear HI365; clear HB; clear HO_5; clear HO_9; have HO_4 := n0_; have HI365 := n1_; have HB := n2_; have HO393 := n3_; clear n0_ n1_ n2_ n3_; clear ho hb hg hat) | (go_at_call 16; (with_reducible refine (na_.calls k3 g365 t363 x366001_1 t382 t394 t395 w _ ?side1 ?side2 A35.out).mono ?_); (case side1 => exact X2); (case side2 => exact X3); rintro e w52 ⟨rfl, hi, hb, hk⟩; have n0_ := ba_.mk (Kd.fd_ (Kd.hj_ (ga_.apart (show ga_ w _ g365 t363 x366001_1 from by repeat (first | (with_reducible first | exact HI365.out | apply ga_.alloc | apply ga_.drewN | apply ga_.drew | apply ga_.tc_) | exact HI365.out)) (Qk HO_4.out) Qc) hk (fun _ h => h.2)) (fun _ h => h.1)); have n1_ := ba_.mk (Kd.yc_ (Kd.qi_ (Kd.yc_ (ok := fun k_ => (some k_ ≠ (.slice (some ad381) t377.length co16 : Value).ownBlock ∧ k_ ≠ g365)) (Qp HO393.out) (fun k_ hk_ => (⟨hk_, hk_.2⟩ : _ ∧ k_ ≠ g365))) hk (fun _ h => h.2)) (fun _ h => h.1)); have n2_ := ba_.mk (hb); have n3_ := ba_.mk (hi); clear HO_4; clear HO393; clear HB; clear HI365; have HO_4 := n0_; have HO393 := n1_; have HB := n2_; have HI365 := n3_; clear n0_ n1_ n2_ n3_; (try clear hb); (try clear hb2); (try clear hk); (try clear hi)) | (go_at_call 15; (with_reducible refine (ge_.calls t394 t396 t397 t398 t399 t400 t401 _ A36.out).mono ?_); rintro e w53 ⟨rfl, hb⟩; have n0_ := ba_.mk (Kd.be_ (Qk HO_4.out) hb); have n1_ := ba_.mk (Kd.xf_ (Qp HO393.out) hb); have n2_ := ba_.mk (ga_.below Qy hb); have n3_ := ba_.mk (hb_ Qs hb); clear HO_4; clear HO393; clear HI365; clear HB; have HO_4 := n0_; have HO393 := n1_; have HI365 := n2_; have HB := n3_; clear n0_ n1_ n2_ n3_; (try clear hb); (try clear hb2); (try clear hk); (try clear hi)) | ((with_reducible refine ld_ (N := 12) rfl ?_); (try (refine ih_ (by rfl) ?_; dsimp only)); refine de_ ?hg (N := 12) ?hd (cs := #[.int .i64 0, .int .i64 0, .int .i64 0, .int .i64 0]) (t := 38) ?hr ?_; (case hd => rfl); (case hg => rfl); (case hr => exact Qt); intro gb402 hg w54 hbox hb; have n0_ := ba_.mk (Kd.be_ (Kd.it_ (Qk HO_4.out) gb402 (Nat.le_of_eq hg.symm)) hb); have n1_ := ba_.mk (Kd.xf_ (Kd.bk_ (Qp HO393.out) gb402 (Nat.le_of_eq hg.symm)) hb); have n2_ := ba_.mk (ga_.below Qy hb); have n3_ := ba_.mk (hb_ Qs hb); have n4_ := ba_.mk (hbox); have n5_ := ba_.mk ((by rw [hg]; exact (pb_ Qs) : w.heap.size ≤ gb402)); have n6_ := ba_.mk ((by rw [hg]; exact (pb_ Qs) : w.heap.size ≤ gb402)); have n7_ := ba_.mk ((by rw [hg]; exact Nat.ne_of_lt (ga_.lt (show ga_ w _ g365 t363 t395 from by repeat (first | (with_reducible first | exact HI365.out | apply ga_.alloc | apply ga_.drewN | apply ga_.drew | apply ga_.tc_) | exact HI365.out))) : g365 ≠ gb402)); have n8_ := ba_.mk ((by rw [hg]; exact Nat.ne_of_gt (ga_.lt (show ga_ w _ g365 t363 t395 from by repeat (first | (with_reducible first | exact HI365.out | apply ga_.alloc | apply ga_.drewN | apply ga_.drew | apply ga_.tc_) | exact HI365.out))) : gb402 ≠ g365)); clear HO_4; clear HO393; clear HI365; clear HB; have HO_4 := n0_; have HO393 := n1_; have HI365 := n2_; have HB := n3_; have BK402 := n4_; have GW402 := n5_; have GE402 := n6_; have NB365_402 := n7_; have NB402_365 := n8_; clear n0_ n1_ n2_ n3_ n4_ n5_ n6_ n7_ n8_; clear hb hbox hg; have hnb55 := NB402_365.out; have hnc55 := NB365_402.out; have hcz56_0 : w54.cell? ⟨gb402, 0, none⟩ = some (.int .i64 0) := (la_ BK402.out 0).trans rfl; have hcz56_1 : w54.cell? ⟨gb402, 1, none⟩ = some (.int .i64 0) := (la_ BK402.out 1).trans rfl; have hcz56_2 : w54.cell? ⟨gb402, 2, none⟩ = some (.int .i64 0) := (la_ BK402.out 2).trans rfl; have hcz56_3 : w54.cell? ⟨gb402, 3, none⟩ = some (.int .i64 0) := (la_ BK402.out 3).trans rfl; have hfz56_0 := ja_ BK402.out 0; have hfz56_1 := ja_ BK402.out 1; have hfz56_2 := ja_ BK402.out 2; have hfz56_3 := ja_ BK402.out 3; have p403 : 0 ≤ (x6_1 : Int) := of_decide_eq_true Qi; have q403 : x6_1 < (t377.length : Int) := of_decide_eq_true Qi; obtain ⟨ad403, e403, hx403_0, hx403_1, hx403_2, hx403_3⟩ := ey_ (Kd.wb_ HO_4.out).2.2 x6_1 p403 q403; obtain rfl : ad381 = ad403 := (by injection e403); have hn403_0 : ad381.block ≠ gb402 := Kd.tb_ (Kd.rl_ HO_4.out (fun _ hk => hk.2)); have hn403_1 : ad381.block ≠ gb402 := Kd.tb_ (Kd.rl_ HO_4.out (fun _ hk => hk.2)); have hn403_2 : ad381.block ≠ gb402 := Kd.tb_ (Kd.rl_ HO_4.out (fun _ hk => hk.2)); have hn403_3 : ad381.block ≠ gb402 := Kd.tb_ (Kd.rl_ HO_4.out (fun _ hk => hk.2)); replace hx403_0 := (cell_far (p := ⟨gb402, 0, none⟩) Xi (.int .i64 t396)).trans hx403_0; replace hx403_1 := (cell_far (p := ⟨gb402, 0, none⟩) Xi (.int .i64 t396)).trans hx403_1; replace hx403_2 := (cell_far (p := ⟨gb402, 0, none⟩) Xi (.int .i64 t396)).trans hx403_2; replace hx403_3 := (cell_far (p := ⟨gb402, 0, none⟩) Xi (.int .i64 t396)).trans hx403_3; replace hx403_0 := (cell_far (p := ⟨gb402, 1, none⟩) Xj (.int .i64 t397)).trans hx403_0; replace hx403_1 := (cell_far (p := ⟨gb402, 1, none⟩) Xj (.int .i64 t397)).trans hx403_1; replace hx403_2 := (cell_far (p := ⟨gb402, 1, none⟩) Xj (.int .i64 t397)).trans hx403_2; replace hx403_3 := (cell_far (p := ⟨gb402, 1, none⟩) Xj (.int .i64 t397)).trans hx403_3; replace hx403_0 := (cell_far (p := ⟨gb402, 2, none⟩) Xk (.int .i64 t398)).trans hx403_0; replace hx403_1 := (cell_far (p := ⟨gb402, 2, none⟩) Xk (.int .i64 t398)).trans hx403_1; replace hx403_2 := (cell_far (p := ⟨gb402, 2, none⟩) Xk (.int .i64 t398)).trans hx403_2; replace hx403_3 := (cell_far (p := ⟨gb402, 2, none⟩) Xk (.int .i64 t398)).trans hx403_3; replace hx403_0 := (cell_far (p := ⟨gb402, 3, none⟩) Xl (.int .i64 t399)).trans hx403_0; replace hx403_1 := (cell_far (p := ⟨gb402, 3, none⟩) Xl (.int .i64 t399)).trans hx403_1; replace hx403_2 := (cell_far (p := ⟨gb402, 3, none⟩) Xl (.int .i64 t399)).trans hx403_2; replace hx403_3 := (cell_far (p := ⟨gb402, 3, none⟩) Xl (.int .i64 t399)).trans hx403_3; (try have hy403_0 := fun (n_ : Nat) => (show ((((((w54.drewN n_).setCell ⟨gb402, 0, none⟩ (.int .i64 t396)).setCell ⟨gb402, 1, none⟩ (.int .i64 t397)).setCell ⟨gb402, 2, none⟩ (.int .i64 t398)).setCell ⟨gb402, 3, none⟩ (.int .i64 t399))).cell? _ = some _ from hx403_0)); (try have hy403_1 := fun (n_ : Nat) => (show ((((((w54.drewN n_).setCell ⟨gb402, 0, none⟩ (.int .i64 t396)).setCell ⟨gb402, 1, none⟩ (.int .i64 t397)).setCell ⟨gb402, 2, none⟩ (.int .i64 t398)).setCell ⟨gb402, 3, none⟩ (.int .i64 t399))).cell? _ = some _ from hx403_1)); (try have hy403_2 := fun (n_ : Nat) => (show ((((((w54.drewN n_).setCell ⟨gb402, 0, none⟩ (.int .i64 t396)).setCell ⟨gb402, 1, none⟩ (.int .i64 t397)).setCell ⟨gb402, 2, none⟩ (.int .i64 t398)).setCell ⟨gb402, 3, none⟩ (.int .i64 t399))).cell? _ = some _ from hx403_2)); (try have hy403_3 := fun (n_ : Nat) => (show ((((((w54.drewN n_).setCell ⟨gb402, 0, none⟩ (.int .i64 t396)).setCell ⟨gb402, 1, none⟩ (.int .i64 t397)).setCell ⟨gb402, 2, none⟩ (.int .i64 t398)).setCell ⟨gb402, 3, none⟩ (.int .i64 t399))).cell? _ = some _ from hx403_3)); clear hn403_0; clear hn403_1; clear hn403_2; clear hn403_3; replace p403 := eq_true p403; replace q403 := eq_true q403))
       repeat (go_quiet (first | ((with_reducible refine md_ (b := .append) (xs := #[.tmp 68, .tmp 70]) rfl ?_); (try (refine ih_ (by rfl) ?_; dsimp only)); at_builtin; refine Kd.et_ (Kd.slice 3 (Kd.int .i64)) (w0 := w) w.heap.size rfl (.tmp 68) (.tmp 70) 33 22 (.slice none 0 0) 24 rfl Tryz.underlying33 uq_ rfl Qc Qa (.slice Ao49 x5_1.length co49) x5_1 t384 [.slice Ao51 t384.length co51] (fun k_ => some k_ ≠ (.slice (some ad381) t377.length co16 : Value).ownBlock ∧ k_ ≠ g365) (fun k_ => ((fun k_ => some k_ ≠ (.slice (some ad381) t377.length co16 : Value).ownBlock ∧ k_ ≠ g365)) k_ ∧ some k_ ≠ (.slice Ao49 x5_1.length co49 : Value).ownBlock) rfl rfl ?aP (fun _ hk => hk) ?aF ?aO ?aB ?aS ?aL ?_; (case aP => exact (Kd.tm_ (Kd.wb_ (Kd.fd_ (ok' := (fun k_ => ((fun k_ => some k_ ≠ (.slice (some ad381) t377.length co16 : Value).ownBlock ∧ k_ ≠ g365)) k_ ∧ some k_ ≠ (.slice Ao49 x5_1.length co49 : Value).ownBlock)) (ga_.apart HI365.out (Kd.ne_ (Kd.ne_ (HO_9.out) (Kd.lk_ HO_4.out) Qc) (Kd.lg_ HO_5.out) Qc) Qc) (fun k_ hk => ⟨⟨hk.1.1.2, hk.2⟩, hk.1.2⟩))).2.1 (Kd.R_F (Kd.fd_ (ok' := (fun k_ => ((fun k_ => some k_ ≠ (.slice (some ad381) t377.length co16 : Value).ownBlock ∧ k_ ≠ g365)) k_ ∧ some k_ ≠ (.slice Ao49 x5_1.length co49 : Value).ownBlock)) (ga_.apart HI365.out (Kd.ne_ (Kd.ne_ (HO_9.out) (Kd.lk_ HO_4.out) Qc) (Kd.lg_ HO_5.out) Qc) Qc) (fun k_ hk => ⟨⟨hk.1.1.2, hk.2⟩, hk.1.2⟩))))); (case aB => exact Qs); (case aF => exact (fun k_ hk => ⟨Kd.fresh' (Kd.R_lt (Qk HO_4.out)) k_ hk, ga_.fresh Qy k_ hk⟩)); (case aO => exact (by (with_reducible repeat (first | apply Kd.cc_ | apply Kd.dc_ | apply Kd.oc_)); exact Kd.yc_ HO_5.out (fun _ hk => ⟨hk.1, hk.2.2⟩))); (case aS => exact (pb_ Qs)); (case aL => have := LMc34.out; omega); intro v392 w50 ho hb hg hat; rw [← Ny391.out] at ho; have n0_ := ba_.mk (Kd.um_ (Qk HO_4.out) (Kd.lg_ (Qp HO_5.out)) Qc hg); have n1_ := ba_.mk (ga_.grown Qy hg (ga_.dn_ HI365.out HO_5.out Qc)); have n2_ := ba_.mk (hb); have n3_ := ba_.mk (ho); clear HO_4; clear HI365; clear HB; clear HO_5; clear HO_9; have HO_4 := n0_; have HI365 := n1_; have HB := n2_; have HO393 := n3_; clear n0_ n1_ n2_ n3_; clear ho hb hg hat) | (go_at_call 16; (with_reducible refine (na_.calls k3 g365 t363 x366001_1 t382 t394 t395 w _ ?side1 ?side2 A35.out).mono ?_); (case side1 => exact X2); (case side2 => exact X3); rintro e w52 ⟨rfl, hi, hb, hk⟩; have n0_ := ba_.mk (Kd.fd_ (Kd.hj_ (ga_.apart (show ga_ w _ g365 t363 x366001_1 from by repeat (first | (with_reducible first | exact HI365.out | apply ga_.alloc | apply ga_.drewN | apply ga_.drew | apply ga_.tc_) | exact HI365.out)) (Qk HO_4.out) Qc) hk (fun _ h => h.2)) (fun _ h => h.1)); have n1_ := ba_.mk (Kd.yc_ (Kd.qi_ (Kd.yc_ (ok := fun k_ => (some k_ ≠ (.slice (some ad381) t377.length co16 : Value).ownBlock ∧ k_ ≠ g365)) (Qp HO393.out) (fun k_ hk_ => (⟨hk_, hk_.2⟩ : _ ∧ k_ ≠ g365))) hk (fun _ h => h.2)) (fun _ h => h.1)); have n2_ := ba_.mk (hb); have n3_ := ba_.mk (hi); clear HO_4; clear HO393; clear HB; clear HI365; have HO_4 := n0_; have HO393 := n1_; have HB := n2_; have HI365 := n3_; clear n0_ n1_ n2_ n3_; (try clear hb); (try clear hb2); (try clear hk); (try clear hi)) | (go_at_call 15; (with_reducible refine (ge_.calls t394 t396 t397 t398 t399 t400 t401 _ A36.out).mono ?_); rintro e w53 ⟨rfl, hb⟩; have n0_ := ba_.mk (Kd.be_ (Qk HO_4.out) hb); have n1_ := ba_.mk (Kd.xf_ (Qp HO393.out) hb); have n2_ := ba_.mk (ga_.below Qy hb); have n3_ := ba_.mk (hb_ Qs hb); clear HO_4; clear HO393; clear HI365; clear HB; have HO_4 := n0_; have HO393 := n1_; have HI365 := n2_; have HB := n3_; clear n0_ n1_ n2_ n3_; (try clear hb); (try clear hb2); (try clear hk); (try clear hi)) | ((with_reducible refine ld_ (N := 12) rfl ?_); (try (refine ih_ (by rfl) ?_; dsimp only)); refine de_ ?hg (N := 12) ?hd (cs := #[.int .i64 0, .int .i64 0, .int .i64 0, .int .i64 0]) (t := 38) ?hr ?_; (case hd => rfl); (case hg => rfl); (case hr => exact Qt); intro gb402 hg w54 hbox hb; have n0_ := ba_.mk (Kd.be_ (Kd.it_ (Qk HO_4.out) gb402 (Nat.le_of_eq hg.symm)) hb); have n1_ := ba_.mk (Kd.xf_ (Kd.bk_ (Qp HO393.out) gb402 (Nat.le_of_eq hg.symm)) hb); have n2_ := ba_.mk (ga_.below Qy hb); have n3_ := ba_.mk (hb_ Qs hb); have n4_ := ba_.mk (hbox); have n5_ := ba_.mk ((by rw [hg]; exact (pb_ Qs) : w.heap.size ≤ gb402)); have n6_ := ba_.mk ((by rw [hg]; exact (pb_ Qs) : w.heap.size ≤ gb402)); have n7_ := ba_.mk ((by rw [hg]; exact Nat.ne_of_lt (ga_.lt (show ga_ w _ g365 t363 t395 from by repeat (first | (with_reducible first | exact HI365.out | apply ga_.alloc | apply ga_.drewN | apply ga_.drew | apply ga_.tc_) | exact HI365.out))) : g365 ≠ gb402)); have n8_ := ba_.mk ((by rw [hg]; exact Nat.ne_of_gt (ga_.lt (show ga_ w _ g365 t363 t395 from by repeat (first | (with_reducible first | exact HI365.out | apply ga_.alloc | apply ga_.drewN | apply ga_.drew | apply ga_.tc_) | exact HI365.out))) : gb402 ≠ g365)); clear HO_4; clear HO393; clear HI365; clear HB; have HO_4 := n0_; have HO393 := n1_; have HI365 := n2_; have HB := n3_; have BK402 := n4_; have GW402 := n5_; have GE402 := n6_; have NB365_402 := n7_; have NB402_365 := n8_; clear n0_ n1_ n2_ n3_ n4_ n5_ n6_ n7_ n8_; clear hb hbox hg; have hnb55 := NB402_365.out; have hnc55 := NB365_402.out; have hcz56_0 : w54.cell? ⟨gb402, 0, none⟩ = some (.int .i64 0) := (la_ BK402.out 0).trans rfl; have hcz56_1 : w54.cell? ⟨gb402, 1, none⟩ = some (.int .i64 0) := (la_ BK402.out 1).trans rfl; have hcz56_2 : w54.cell? ⟨gb402, 2, none⟩ = some (.int .i64 0) := (la_ BK402.out 2).trans rfl; have hcz56_3 : w54.cell? ⟨gb402, 3, none⟩ = some (.int .i64 0) := (la_ BK402.out 3).trans rfl; have hfz56_0 := ja_ BK402.out 0; have hfz56_1 := ja_ BK402.out 1; have hfz56_2 := ja_ BK402.out 2; have hfz56_3 := ja_ BK402.out 3; have p403 : 0 ≤ (x6_1 : Int) := of_decide_eq_true Qi; have q403 : x6_1 < (t377.length : Int) := of_decide_eq_true Qi; obtain ⟨ad403, e403, hx403_0, hx403_1, hx403_2, hx403_3⟩ := ey_ (Kd.wb_ HO_4.out).2.2 x6_1 p403 q403; obtain rfl : ad381 = ad403 := (by injection e403); have hn403_0 : ad381.block ≠ gb402 := Kd.tb_ (Kd.rl_ HO_4.out (fun _ hk => hk.2)); have hn403_1 : ad381.block ≠ gb402 := Kd.tb_ (Kd.rl_ HO_4.out (fun _ hk => hk.2)); have hn403_2 : ad381.block ≠ gb402 := Kd.tb_ (Kd.rl_ HO_4.out (fun _ hk => hk.2)); have hn403_3 : ad381.block ≠ gb402 := Kd.tb_ (Kd.rl_ HO_4.out (fun _ hk => hk.2)); replace hx403_0 := (cell_far (p := ⟨gb402, 0, none⟩) Xi (.int .i64 t396)).trans hx403_0; replace hx403_1 := (cell_far (p := ⟨gb402, 0, none⟩) Xi (.int .i64 t396)).trans hx403_1; replace hx403_2 := (cell_far (p := ⟨gb402, 0, none⟩) Xi (.int .i64 t396)).trans hx403_2; replace hx403_3 := (cell_far (p := ⟨gb402, 0, none⟩) Xi (.int .i64 t396)).trans hx403_3; replace hx403_0 := (cell_far (p := ⟨gb402, 1, none⟩) Xj (.int .i64 t397)).trans hx403_0; replace hx403_1 := (cell_far (p := ⟨gb402, 1, none⟩) Xj (.int .i64 t397)).trans hx403_1; replace hx403_2 := (cell_far (p := ⟨gb402, 1, none⟩) Xj (.int .i64 t397)).trans hx403_2; replace hx403_3 := (cell_far (p := ⟨gb402, 1, none⟩) Xj (.int .i64 t397)).trans hx403_3; replace hx403_0 := (cell_far (p := ⟨gb402, 2, none⟩) Xk (.int .i64 t398)).trans hx403_0; replace hx403_1 := (cell_far (p := ⟨gb402, 2, none⟩) Xk (.int .i64 t398)).trans hx403_1; replace hx403_2 := (cell_far (p := ⟨gb402, 2, none⟩) Xk (.int .i64 t398)).trans hx403_2; replace hx403_3 := (cell_far (p := ⟨gb402, 2, none⟩) Xk (.int .i64 t398)).trans hx403_3; replace hx403_0 := (cell_far (p := ⟨gb402, 3, none⟩) Xl (.int .i64 t399)).trans hx403_0; replace hx403_1 := (cell_far (p := ⟨gb402, 3, none⟩) Xl (.int .i64 t399)).trans hx403_1; replace hx403_2 := (cell_far (p := ⟨gb402, 3, none⟩) Xl (.int .i64 t399)).trans hx403_2; replace hx403_3 := (cell_far (p := ⟨gb402, 3, none⟩) Xl (.int .i64 t399)).trans hx403_3; (try have hy403_0 := fun (n_ : Nat) => (show ((((((w54.drewN n_).setCell ⟨gb402, 0, none⟩ (.int .i64 t396)).setCell ⟨gb402, 1, none⟩ (.int .i64 t397)).setCell ⟨gb402, 2, none⟩ (.int .i64 t398)).setCell ⟨gb402, 3, none⟩ (.int .i64 t399))).cell? _ = some _ from hx403_0)); (try have hy403_1 := fun (n_ : Nat) => (show ((((((w54.drewN n_).setCell ⟨gb402, 0, none⟩ (.int .i64 t396)).setCell ⟨gb402, 1, none⟩ (.int .i64 t397)).setCell ⟨gb402, 2, none⟩ (.int .i64 t398)).setCell ⟨gb402, 3, none⟩ (.int .i64 t399))).cell? _ = some _ from hx403_1)); (try have hy403_2 := fun (n_ : Nat) => (show ((((((w54.drewN n_).setCell ⟨gb402, 0, none⟩ (.int .i64 t396)).setCell ⟨gb402, 1, none⟩ (.int .i64 t397)).setCell ⟨gb402, 2, none⟩ (.int .i64 t398)).setCell ⟨gb402, 3, none⟩ (.int .i64 t399))).cell? _ = some _ from hx403_2)); (try have hy403_3 := fun (n_ : Nat) => (show ((((((w54.drewN n_).setCell ⟨gb402, 0, none⟩ (.int .i64 t396)).setCell ⟨gb402, 1, none⟩ (.int .i64 t397)).setCell ⟨gb402, 2, none⟩ (.int .i64 t398)).setCell ⟨gb402, 3, none⟩ (.int .i64 t399))).cell? _ = some _ from hx403_3)); clear hn403_0; clear hn403_1; clear hn403_2; clear hn403_3; replace p403 := eq_true p403; replace q403 := eq_true q403)); try go_wp2_with (first | ((with_reducible refine md_ (b := .append) (xs := #[.tmp 68, .tmp 70]) rfl ?_); (try (refine ih_ (by rfl) ?_; dsimp only)); at_builtin; refine Kd.et_ (Kd.slice 3 (Kd.int .i64)) (w0 := w) w.heap.size rfl (.tmp 68) (.tmp 70) 33 22 (.slice none 0 0) 24 rfl Tryz.underlying33 uq_ rfl Qc Qa (.slice Ao49 x5_1.length co49) x5_1 t384 [.slice Ao51 t384.length co51] (fun k_ => some k_ ≠ (.slice (some ad381) t377.length co16 : Value).ownBlock ∧ k_ ≠ g365) (fun k_ => ((fun k_ => some k_ ≠ (.slice (some ad381) t377.length co16 : Value).ownBlock ∧ k_ ≠ g365)) k_ ∧ some k_ ≠ (.slice Ao49 x5_1.length co49 : Value).ownBlock) rfl rfl ?aP (fun _ hk => hk) ?aF ?aO ?aB ?aS ?aL ?_; (case aP => exact (Kd.tm_ (Kd.wb_ (Kd.fd_ (ok' := (fun k_ => ((fun k_ => some k_ ≠ (.slice (some ad381) t377.length co16 : Value).ownBlock ∧ k_ ≠ g365)) k_ ∧ some k_ ≠ (.slice Ao49 x5_1.length co49 : Value).ownBlock)) (ga_.apart HI365.out (Kd.ne_ (Kd.ne_ (HO_9.out) (Kd.lk_ HO_4.out) Qc) (Kd.lg_ HO_5.out) Qc) Qc) (fun k_ hk => ⟨⟨hk.1.1.2, hk.2⟩, hk.1.2⟩))).2.1 (Kd.R_F (Kd.fd_ (ok' := (fun k_ => ((fun k_ => some k_ ≠ (.slice (some ad381) t377.length co16 : Value).ownBlock ∧ k_ ≠ g365)) k_ ∧ some k_ ≠ (.slice Ao49 x5_1.length co49 : Value).ownBlock)) (ga_.apart HI365.out (Kd.ne_ (Kd.ne_ (HO_9.out) (Kd.lk_ HO_4.out) Qc) (Kd.lg_ HO_5.out) Qc) Qc) (fun k_ hk => ⟨⟨hk.1.1.2, hk.2⟩, hk.1.2⟩))))); (case aB => exact Qs); (case aF => exact (fun k_ hk => ⟨Kd.fresh' (Kd.R_lt (Qk HO_4.out)) k_ hk, ga_.fresh Qy k_ hk⟩)); (case aO => exact (by (with_reducible repeat (first | apply Kd.cc_ | apply Kd.dc_ | apply Kd.oc_)); exact Kd.yc_ HO_5.out (fun _ hk => ⟨hk.1, hk.2.2⟩))); (case aS => exact (pb_ Qs)); (case aL => have := LMc34.out; omega); intro v392 w50 ho hb hg hat; rw [← Ny391.out] at ho; have n0_ := ba_.mk (Kd.um_ (Qk HO_4.out) (Kd.lg_ (Qp HO_5.out)) Qc hg); have n1_ := ba_.mk (ga_.grown Qy hg (ga_.dn_ HI365.out HO_5.out Qc)); have n2_ := ba_.mk (hb); have n3_ := ba_.mk (ho); clear HO_4; clear HI365; clear HB; clear HO_5; clear HO_9; have HO_4 := n0_; have HI365 := n1_; have HB := n2_; have HO393 := n3_; clear n0_ n1_ n2_ n3_; clear ho hb hg hat) | (go_at_call 16; (with_reducible refine (na_.calls k3 g365 t363 x366001_1 t382 t394 t395 w _ ?side1 ?side2 A35.out).mono ?_); (case side1 => exact X2); (case side2 => exact X3); rintro e w52 ⟨rfl, hi, hb, hk⟩; have n0_ := ba_.mk (Kd.fd_ (Kd.hj_ (ga_.apart (show ga_ w _ g365 t363 x366001_1 from by repeat (first | (with_reducible first | exact HI365.out | apply ga_.alloc | apply ga_.drewN | apply ga_.drew | apply ga_.tc_) | exact HI365.out)) (Qk HO_4.out) Qc) hk (fun _ h => h.2)) (fun _ h => h.1)); have n1_ := ba_.mk (Kd.yc_ (Kd.qi_ (Kd.yc_ (ok := fun k_ => (some k_ ≠ (.slice (some ad381) t377.length co16 : Value).ownBlock ∧ k_ ≠ g365)) (Qp HO393.out) (fun k_ hk_ => (⟨hk_, hk_.2⟩ : _ ∧ k_ ≠ g365))) hk (fun _ h => h.2)) (fun _ h => h.1)); have n2_ := ba_.mk (hb); have n3_ := ba_.mk (hi); clear HO_4; clear HO393; clear HB; clear HI365; have HO_4 := n0_; have HO393 := n1_; have HB := n2_; have HI365 := n3_; clear n0_ n1_ n2_ n3_; (try clear hb); (try clear hb2); (try clear hk); (try clear hi)) | (go_at_call 15; (with_reducible refine (ge_.calls t394 t396 t397 t398 t399 t400 t401 _ A36.out).mono ?_); rintro e w53 ⟨rfl, hb⟩; have n0_ := ba_.mk (Kd.be_ (Qk HO_4.out) hb); have n1_ := ba_.mk (Kd.xf_ (Qp HO393.out) hb); have n2_ := ba_.mk (ga_.below Qy hb); have n3_ := ba_.mk (hb_ Qs hb); clear HO_4; clear HO393; clear HI365; clear HB; have HO_4 := n0_; have HO393 := n1_; have HI365 := n2_; have HB := n3_; clear n0_ n1_ n2_ n3_; (try clear hb); (try clear hb2); (try clear hk); (try clear hi)) | ((with_reducible refine ld_ (N := 12) rfl ?_); (try (refine ih_ (by rfl) ?_; dsimp only)); refine de_ ?hg (N := 12) ?hd (cs := #[.int .i64 0, .int .i64 0, .int .i64 0, .int .i64 0]) (t := 38) ?hr ?_; (case hd => rfl); (case hg => rfl); (case hr => exact Qt); intro gb402 hg w54 hbox hb; have n0_ := ba_.mk (Kd.be_ (Kd.it_ (Qk HO_4.out) gb402 (Nat.le_of_eq hg.symm)) hb); have n1_ := ba_.mk (Kd.xf_ (Kd.bk_ (Qp HO393.out) gb402 (Nat.le_of_eq hg.symm)) hb); have n2_ := ba_.mk (ga_.below Qy hb); have n3_ := ba_.mk (hb_ Qs hb); have n4_ := ba_.mk (hbox); have n5_ := ba_.mk ((by rw [hg]; exact (pb_ Qs) : w.heap.size ≤ gb402)); have n6_ := ba_.mk ((by rw [hg]; exact (pb_ Qs) : w.heap.size ≤ gb402)); have n7_ := ba_.mk ((by rw [hg]; exact Nat.ne_of_lt (ga_.lt (show ga_ w _ g365 t363 t395 from by repeat (first | (with_reducible first | exact HI365.out | apply ga_.alloc | apply ga_.drewN | apply ga_.drew | apply ga_.tc_) | exact HI365.out))) : g365 ≠ gb402)); have n8_ := ba_.mk ((by rw [hg]; exact Nat.ne_of_gt (ga_.lt (show ga_ w _ g365 t363 t395 from by repeat (first | (with_reducible first | exact HI365.out | apply ga_.alloc | apply ga_.drewN | apply ga_.drew | apply ga_.tc_) | exact HI365.out))) : gb402 ≠ g365)); clear HO_4; clear HO393; clear HI365; clear HB; have HO_4 := n0_; have HO393 := n1_; have HI365 := n2_; have HB := n3_; have BK402 := n4_; have GW402 := n5_; have GE402 := n6_; have NB365_402 := n7_; have NB402_365 := n8_; clear n0_ n1_ n2_ n3_ n4_ n5_ n6_ n7_ n8_; clear hb hbox hg; have hnb55 := NB402_365.out; have hnc55 := NB365_402.out; have hcz56_0 : w54.cell? ⟨gb402, 0, none⟩ = some (.int .i64 0) := (la_ BK402.out 0).trans rfl; have hcz56_1 : w54.cell? ⟨gb402, 1, none⟩ = some (.int .i64 0) := (la_ BK402.out 1).trans rfl; have hcz56_2 : w54.cell? ⟨gb402, 2, none⟩ = some (.int .i64 0) := (la_ BK402.out 2).trans rfl; have hcz56_3 : w54.cell? ⟨gb402, 3, none⟩ = some (.int .i64 0) := (la_ BK402.out 3).trans rfl; have hfz56_0 := ja_ BK402.out 0; have hfz56_1 := ja_ BK402.out 1; have hfz56_2 := ja_ BK402.out 2; have hfz56_3 := ja_ BK402.out 3; have p403 : 0 ≤ (x6_1 : Int) := of_decide_eq_true Qi; have q403 : x6_1 < (t377.length : Int) := of_decide_eq_true Qi; obtain ⟨ad403, e403, hx403_0, hx403_1, hx403_2, hx403_3⟩ := ey_ (Kd.wb_ HO_4.out).2.2 x6_1 p403 q403; obtain rfl : ad381 = ad403 := (by injection e403); have hn403_0 : ad381.block ≠ gb402 := Kd.tb_ (Kd.rl_ HO_4.out (fun _ hk => hk.2)); have hn403_1 : ad381.block ≠ gb402 := Kd.tb_ (Kd.rl_ HO_4.out (fun _ hk => hk.2)); have hn403_2 : ad381.block ≠ gb402 := Kd.tb_ (Kd.rl_ HO_4.out (fun _ hk => hk.2)); have hn403_3 : ad381.block ≠ gb402 := Kd.tb_ (Kd.rl_ HO_4.out (fun _ hk => hk.2)); replace hx403_0 := (cell_far (p := ⟨gb402, 0, none⟩) Xi (.int .i64 t396)).trans hx403_0; replace hx403_1 := (cell_far (p := ⟨gb402, 0, none⟩) Xi (.int .i64 t396)).trans hx403_1; replace hx403_2 := (cell_far (p := ⟨gb402, 0, none⟩) Xi (.int .i64 t396)).trans hx403_2; replace hx403_3 := (cell_far (p := ⟨gb402, 0, none⟩) Xi (.int .i64 t396)).trans hx403_3; replace hx403_0 := (cell_far (p := ⟨gb402, 1, none⟩) Xj (.int .i64 t397)).trans hx403_0; replace hx403_1 := (cell_far (p := ⟨gb402, 1, none⟩) Xj (.int .i64 t397)).trans hx403_1; replace hx403_2 := (cell_far (p := ⟨gb402, 1, none⟩) Xj (.int .i64 t397)).trans hx403_2; replace hx403_3 := (cell_far (p := ⟨gb402, 1, none⟩) Xj (.int .i64 t397)).trans hx403_3; replace hx403_0 := (cell_far (p := ⟨gb402, 2, none⟩) Xk (.int .i64 t398)).trans hx403_0; replace hx403_1 := (cell_far (p := ⟨gb402, 2, none⟩) Xk (.int .i64 t398)).trans hx403_1; replace hx403_2 := (cell_far (p := ⟨gb402, 2, none⟩) Xk (.int .i64 t398)).trans hx403_2; replace hx403_3 := (cell_far (p := ⟨gb402, 2, none⟩) Xk (.int .i64 t398)).trans hx403_3; replace hx403_0 := (cell_far (p := ⟨gb402, 3, none⟩) Xl (.int .i64 t399)).trans hx403_0; replace hx403_1 := (cell_far (p := ⟨gb402, 3, none⟩) Xl (.int .i64 t399)).trans hx403_1; replace hx403_2 := (cell_far (p := ⟨gb402, 3, none⟩) Xl (.int .i64 t399)).trans hx403_2; replace hx403_3 := (cell_far (p := ⟨gb402, 3, none⟩) Xl (.int .i64 t399)).trans hx403_3; (try have hy403_0 := fun (n_ : Nat) => (show ((((((w54.drewN n_).setCell ⟨gb402, 0, none⟩ (.int .i64 t396)).setCell ⟨gb402, 1, none⟩ (.int .i64 t397)).setCell ⟨gb402, 2, none⟩ (.int .i64 t398)).setCell ⟨gb402, 3, none⟩ (.int .i64 t399))).cell? _ = some _ from hx403_0)); (try have hy403_1 := fun (n_ : Nat) => (show ((((((w54.drewN n_).setCell ⟨gb402, 0, none⟩ (.int .i64 t396)).setCell ⟨gb402, 1, none⟩ (.int .i64 t397)).setCell ⟨gb402, 2, none⟩ (.int .i64 t398)).setCell ⟨gb402, 3, none⟩ (.int .i64 t399))).cell? _ = some _ from hx403_1)); (try have hy403_2 := fun (n_ : Nat) => (show ((((((w54.drewN n_).setCell ⟨gb402, 0, none⟩ (.int .i64 t396)).setCell ⟨gb402, 1, none⟩ (.int .i64 t397)).setCell ⟨gb402, 2, none⟩ (.int .i64 t398)).setCell ⟨gb402, 3, none⟩ (.int .i64 t399))).cell? _ = some _ from hx403_2)); (try have hy403_3 := fun (n_ : Nat) => (show ((((((w54.drewN n_).setCell ⟨gb402, 0, none⟩ (.int .i64 t396)).setCell ⟨gb402, 1, none⟩ (.int .i64 t397)).setCell ⟨gb402, 2, none⟩ (.int .i64 t398)).setCell ⟨gb402, 3, none⟩ (.int .i64 t399))).cell? _ = some _ from hx403_3)); clear hn403_0; clear hn403_1; clear hn403_2; clear hn403_3; replace p403 := eq_true p403; replace q403 := eq_true q403)))
       go_roundg k3
       case measure => have := HK1.out; have := HJ14.out; have := HK3.out; omega
       case rel => exact ⟨(y391), (wrap64 (x6_1 + 1)), (t395), Ql, H', ⟨by have := HK1.out; have := HJ14.out; have := HK3.out; omega⟩, ⟨by (with_reducible repeat (first | apply Kd.bb_ | apply Kd.cb_ | apply Kd.sb_)); exact Kd.fd_ (Kd.zf_ (p := ⟨gb402, 3, none⟩) (Kd.zf_ (p := ⟨gb402, 2, none⟩) (Kd.zf_ (p := ⟨gb402, 1, none⟩) (Kd.zf_ (p := ⟨gb402, 0, none⟩) (Kd.fd_ HO_4.out (fun k_ hk => (⟨hk, hk.2⟩ : _ ∧ k_ ≠ gb402))) (fun _ hk => hk.2) (.int .i64 t396)) (fun _ hk => hk.2) (.int .i64 t397)) (fun _ hk => hk.2) (.int .i64 t398)) (fun _ hk => hk.2) (.int .i64 t399)) (fun _ hk => trivial)⟩, ⟨by (with_reducible repeat (first | apply Kd.cc_ | apply Kd.dc_ | apply Kd.oc_)); exact Kd.yc_ (Kd.lh_ (p := ⟨gb402, 3, none⟩) (Kd.lh_ (p := ⟨gb402, 2, none⟩) (Kd.lh_ (p := ⟨gb402, 1, none⟩) (Kd.lh_ (p := ⟨gb402, 0, none⟩) (Kd.yc_ HO393.out (fun k_ hk => (⟨hk, hk.2⟩ : _ ∧ k_ ≠ gb402))) (fun _ hk => hk.2) (.int .i64 t396)) (fun _ hk => hk.2) (.int .i64 t397)) (fun _ hk => hk.2) (.int .i64 t398)) (fun _ hk => hk.2) (.int .i64 t399)) (fun _ hk => ⟨hk.1.1.1, hk.1.1.2⟩)⟩, ⟨by repeat (first | (with_reducible first | exact HI365.out | apply ga_.alloc | apply ga_.drewN | apply ga_.drew | apply ga_.tc_ | refine ga_.far ?_ NB365_402.out _) | exact HI365.out)⟩, ⟨by repeat (first | (with_reducible first | exact HB.out | apply da_ | apply aa_ | apply ca_ | refine fa_ ?_ (ga_.ge HI365.out) | refine fa_ ?_ GE402.out) | exact HB.out)⟩⟩
def qa_.Pure : Prop := ∀ (l0 : List Int), l0.length ≤ maxLen → l0.length * 8 ≤ 140737488351232 → (∀ x ∈ l0, (Lit.int .i64 x).wf = true) → ∃ k, qa_.f k l0 = some true
theorem qa_.walk (P : qa_.Pure) (a0 : Option Addr) (len0 cap0 : Nat) (z0 : List Int) (w : World) (w0 : (a0 = none ∧ len0 = 0 ∧ cap0 = 0 ∧ z0 = []) ∨ ∃ x, a0 = some x ∧ len0 ≤ cap0 ∧ cap0 ≤ maxLen ∧ z0.length = cap0 ∧ (∀ i, i < z0.length → w.cell? (x.add i) = some (.int .i64 (z0.getD i 0))) ∧ ∀ n ∈ z0, (Lit.int .i64 n).wf = true) (y0 : len0 * 8 ≤ 140737488351232) :
  Calls Tryz.prog 3 #[.slice a0 len0 cap0] w fun e w' => e = .returned (.bool true) ∧ Below w.heap.size w w' := by
 obtain ⟨l0, rfl, hr0, hm0, hw0, hc0⟩ := se_.ofRowC w0
 obtain ⟨k, h⟩ := P l0 hm0 y0 hw0
 refine (qa_.calls k _ _ l0 true w (Kd.zr_ (d := (0 : Int)) (h1 := fun _ => rfl) hr0) hc0 h rfl).mono ?_
 rintro e w' ⟨rfl, hd⟩
 exact ⟨rfl, hd⟩
end Go.Proofs.YtpkhgapifnjbeaaGreatDoor.TL
end
section
namespace Go.Proofs.YtpkhgapifnjbeaaGreatDoor.Pure
open RowKit Go.Lib Go.Lib.Hx TL Zw.PrintWords Zw.PrintLast Zw.PrintMore G Rs
theorem bh1_ (a b : Int) (h1 : 1 ≤ b) : (if Int.tmod a b < 0 then Int.tmod a b + b else Int.tmod a b) = a % b ∧ -b < Int.tmod a b := by
 have h := Int.emod_nonneg a (b := b) Qa
 have h' := Int.emod_lt_of_pos a (show 0 < b by omega)
 have e := @Int.tmod_eq_emod a b
 by_cases c : 0 ≤ a ∨ b ∣ a
 ·rw [if_pos c] at e
  rw [if_neg Qa]; omega
 rw [if_neg c] at e
 have : a % b ≠ 0 := fun q => c (.inr (Int.dvd_of_emod_eq_zero q))
 rw [if_pos Qa]; omega
theorem cut_f (a b : Int) (h1 : 1 ≤ b) (h2 : b ≤ 1000000) : pe_.f a b = some (a % b) := by
 obtain ⟨e, h⟩ := bh1_ a b h1
 unfold pe_.f
 rw [if_neg Qa, if_neg Qa]
 by_cases c : Int.tmod a b < 0
 ·rw [if_pos c] at e
  rw [if_pos c, show wrap64 (Int.tmod a b + b) = Int.tmod a b + b from by unfold wrap64; omega, e]
 rw [if_neg c] at e
 rw [if_neg c, e]
theorem w64 {x : Int} (h0 : -1000000000 ≤ x) (h1 : x ≤ 1000000000) : wrap64 x = x := by unfold wrap64; omega
theorem rm_ (i : Nat) (h : i ≤ 1000000) : wrap64 ((i : Int) + 1) = ((i + 1 : Nat) : Int) := by rw [w64 Qa Qa]; rfl
theorem w64_dn (i : Nat) (h : i ≤ 1000000) : wrap64 (((i + 1 : Nat) : Int) - 1) = (i : Int) := by rw [w64 Qa Qa]; omega
def TA (p : Int) : Prop := 0 ≤ p ∧ p ≤ 600
theorem new_f (l : List Int) : ∃ L, ke_.f l = some (L, 0) ∧ L.length ≤ 600 ∧ TA 0 := by
 unfold ke_.f
 by_cases h : (l.length : Int) > 600
 ·rw [if_pos h, if_pos Qa]
  exact ⟨_, rfl, by rw [List.length_take]; omega, by unfold TA; omega⟩
 rw [if_neg h]
 exact ⟨l, rfl, Qa, by unfold TA; omega⟩
theorem raw_f {L : List Int} (hL : L.length ≤ 600) {p : Int} (hp : TA p) : ∃ v q, je_.f L p = some (v, q) ∧ TA q := by
 unfold TA at hp
 unfold je_.f
 by_cases h : p ≥ (L.length : Int)
 ·rw [if_pos h]; exact ⟨_, _, rfl, hp⟩
 have e1 : wrap64 (p + 1) = p + 1 := by unfold wrap64; omega
 have e2 : wrap64 (p + 1 - 1) = p := by unfold wrap64; omega
 rw [if_neg h, e1, e2, if_pos Qa, if_pos Qa]
 exact ⟨_, _, rfl, by unfold TA; omega⟩
theorem jj_ {L : List Int} (hL : L.length ≤ 600) {p : Int} (hp : TA p) (n : Int) (h1 : 1 ≤ n) (h2 : n ≤ 1000000) : ∃ v q, oa_.f L p n = some (v, q) ∧ 0 ≤ v ∧ v < n ∧ TA q := by
 obtain ⟨v, q, e, hq⟩ := raw_f hL hp
 unfold oa_.f
 rw [e]
 simp only [Option.bind_some]
 rw [cut_f v n h1 h2]
 exact ⟨_, _, rfl, Int.emod_nonneg _ Qa, Int.emod_lt_of_pos _ Qa, hq⟩
theorem fn_ {L : List Int} (hL : L.length ≤ 600) {p : Int} (hp : TA p) (a b : Int) (h0 : -1000 ≤ a) (h1 : a ≤ b) (h2 : b ≤ 100000) : ∃ v q, ob_.f L p a b = some (v, q) ∧ a ≤ v ∧ v ≤ b ∧ TA q := by
 have e1 : wrap64 (wrap64 (b - a) + 1) = b - a + 1 := by unfold wrap64; omega
 obtain ⟨v, q, e, v0, v1, hq⟩ := jj_ hL hp (b - a + 1) Qa Qa
 unfold ob_.f
 rw [e1, e]
 simp only [Option.bind_some]
 have e2 : wrap64 (a + v) = a + v := by unfold wrap64; omega
 rw [e2]
 exact ⟨_, _, rfl, Qa, Qa, hq⟩
def okL (a b c d : Int) : Prop := (0 ≤ a ∧ a ≤ 31) ∧ (0 ≤ b ∧ b ≤ 9999) ∧ (0 ≤ c ∧ c ≤ 31) ∧ (0 ≤ d ∧ d ≤ 31)
theorem kg1_ {l : List Int} {n a : Nat} (hn : l.Nodup) (hm : ∀ y ∈ l, 0 ≤ y ∧ y < (n : Int)) : (l.take a ++ [(n : Int)] ++ l.drop a).Nodup ∧ (∀ y ∈ l.take a ++ [(n : Int)] ++ l.drop a, 0 ≤ y ∧ y < ((n + 1 : Nat) : Int)) ∧ (l.take a ++ [(n : Int)] ++ l.drop a).length = l.length + 1 := by
 have hp : (l.take a ++ [(n : Int)] ++ l.drop a).Perm ((n : Int) :: l) := by
  have : (l.take a ++ [(n : Int)] ++ l.drop a).Perm ([(n : Int)] ++ l.take a ++ l.drop a) := (List.perm_append_comm).append_right _
  refine this.trans ?_
  rw [List.append_assoc, List.take_append_drop]; exact List.Perm.refl _
 refine ⟨hp.nodup_iff.2 (List.nodup_cons.2 ⟨fun h => by have := hm _ h; omega, hn⟩), fun y hy => ?_, by rw [hp.length_eq]; rfl⟩
 rcases List.mem_cons.1 (hp.mem_iff.1 hy) with rfl | h
 ·omega
 ·have := hm y h; omega
theorem fg1_ {L : List Int} (hL : L.length ≤ 600) (n : Nat) (hn : n ≤ 1000) : ∀ (d i k : Nat) (p : Int) (ys : List Int), i + d = n → d < k → TA p → ys.length = i → ys.Nodup → (∀ y ∈ ys, 0 ≤ y ∧ y < (i : Int)) → ∃ zs q, rb_.l0 k (n : Int) ys (i : Int) L p = some (zs, q) ∧ zs.length = n ∧ zs.Nodup ∧ (∀ y ∈ zs, 0 ≤ y ∧ y < (n : Int)) ∧ TA q := by
 intro d
 induction d with
 | zero =>
  intro i k p ys hi hk hp hl hd hm
  obtain ⟨k, rfl⟩ : ∃ m, k = m + 1 := ⟨k - 1, Qa⟩
  simp only [rb_.l0]
  rw [if_neg Qa]
  obtain rfl : i = n := by omega
  exact ⟨_, _, rfl, hl, hd, hm, hp⟩
 | succ d ih =>
  intro i k p ys hi hk hp hl hd hm
  obtain ⟨k, rfl⟩ : ∃ m, k = m + 1 := ⟨k - 1, Qa⟩
  have e1 : wrap64 ((i : Int) + 1) = ((i + 1 : Nat) : Int) := by unfold wrap64; omega
  obtain ⟨v, q, e, v0, v1, hq⟩ := jj_ hL hp ((i + 1 : Nat) : Int) Qa Qa
  obtain ⟨a, rfl⟩ := Int.eq_ofNat_of_zero_le v0
  obtain ⟨g1, g2, g3⟩ := kg1_ (a := a) hd hm
  simp only [rb_.l0]
  rw [if_pos Qa, e1, e]
  simp only [Option.bind_some]
  have l1 : (ys.take a).length ≤ ys.length := by rw [List.length_take]; omega
  have l2 : (ys.drop a).length ≤ ys.length := by rw [List.length_drop]; omega
  rw [if_pos Qa, if_pos Qa, show (a : Int).toNat = a from rfl]
  simp only [List.nil_append, List.length_nil, Nat.zero_add]
  rw [if_pos Qa, if_pos Qa]
  rw [if_pos Yv]
  exact ih (i + 1) k q _ Qa Qa hq Qa g1 g2
theorem ik1_ {L : List Int} (hL : L.length ≤ 600) {p : Int} (hp : TA p) (n : Nat) (hn : n ≤ 1000) (k : Nat) (hk : n < k) : ∃ zs q, rb_.f k L p (n : Int) = some (zs, q) ∧ zs.length = n ∧ zs.Nodup ∧ (∀ y ∈ zs, 0 ≤ y ∧ y < (n : Int)) ∧ TA q := by
 unfold rb_.f
 exact fg1_ hL n hn n 0 k p [] Qa hk hp rfl List.nodup_nil Qj
def chB (b : UInt8) : Bool := b == 48 || b == 49 || b == 63
def hf_ (s : ByteArray) : Bool := decide (s.size = 74) && s.data.toList.all chB
theorem pg_ (s : ByteArray) : s.data.toList.length = s.size := rfl
theorem aj1_ (s : ByteArray) (i : Nat) (h : i < s.data.toList.length) : Go.Proofs.Zw.PrintWords.bt s (i : Int) = ((s.data.toList[i]).toNat : Int) := by
 have h' : i < s.size := h
 have := Go.Proofs.Zw.PrintWords.yb1_ s (i : Int) h'
 rw [← this]
 rfl
theorem bt_iff (s : ByteArray) (i : Nat) (h : i < s.data.toList.length) (c : UInt8) : (Go.Proofs.Zw.PrintWords.bt s (i : Int) = (c.toNat : Int)) ↔ (s.data.toList[i] = c) := by
 rw [aj1_ s i h]
 exact ⟨fun q => UInt8.toNat_inj.1 Qa, fun q => by rw [q]⟩
theorem kq_ {p : UInt8 → Bool} : ∀ l : List UInt8, (l.dropWhile p = []) ↔ l.all p = true
 | [] => by simp
 | a :: l => by
  rw [List.dropWhile_cons, List.all_cons]
  by_cases h : p a = true
  ·rw [if_pos h, h, Bool.true_and]; exact kq_ l
  ·rw [if_neg h, Bool.eq_false_iff.2 h, Bool.false_and]; simp
theorem tu_ {p : UInt8 → Bool} : ∀ l : List UInt8, (l.dropWhile p).all p = true → l.all p = true
 | [] => by simp
 | a :: l => by
  rw [List.dropWhile_cons, List.all_cons]
  by_cases h : p a = true
  ·rw [if_pos h, h, Bool.true_and]; exact tu_ l
  ·rw [if_neg h, List.all_cons]; exact id
theorem eh1_ (l cs : List UInt8) : (Lib.trimS l cs = []) ↔ l.all (cs.contains ·) = true := by
 unfold Lib.trimS Lib.trimLeftS Lib.trimRightS
 rw [kq_, List.all_reverse]
 constructor
 ·intro h
  have := tu_ _ h
  rwa [List.all_reverse] at this
 intro h
 have : l.reverse.dropWhile (cs.contains ·) = [] := (kq_ _).2 (by rw [List.all_reverse]; exact h)
 rw [this]; rfl
theorem ow_ (b : UInt8) : ([48, 49, 63] : List UInt8).contains b = chB b := by
 unfold chB
 rw [List.contains_cons, List.contains_cons, List.contains_cons, List.contains_nil, Bool.or_false, Bool.or_assoc]
theorem bw_ (s : ByteArray) : sk_.f s = some (hf_ s) := by
 unfold sk_.f TA.tf_.f hf_
 by_cases h : s.size = 74
 rotate_left
 ·rw [if_neg Qa, decide_eq_false h, Bool.false_and]
 rw [if_pos Qa, decide_eq_true h, Bool.true_and]
 unfold vq_.f
 rw [if_pos ⟨Qa, rfl⟩]
 simp only [Option.bind_some]
 rw [ByteArray.toList_mk]
 congr 1
 rw [Bool.eq_iff_iff, beq_iff_eq, eh1_]
 rw [show (fun x => (⟨#[48, 49, 63]⟩ : ByteArray).data.toList.contains x) = chB from funext ow_]
theorem nj_ {s : ByteArray} (h : hf_ s = true) : s.size = 74 ∧ s.data.toList.all chB = true := by
 unfold hf_ at h
 rw [Bool.and_eq_true] at h
 exact ⟨of_decide_eq_true h.1, h.2⟩
theorem iv_ (s : ByteArray) (c : UInt8) : l_Count.f s ⟨#[c]⟩ = some ((s.data.toList.count c : Nat) : Int) := rfl
theorem hz_ (s : ByteArray) (hs : s.size ≤ 1000) : wj_.f s = some (ok_ s) := by
 unfold wj_.f
 rw [if_pos Qa]
theorem yl_ (s : ByteArray) : (ok_ s).data.toList = s.data.toList.reverse := rfl
theorem yu_ (s : ByteArray) : (ok_ s).size = s.size := by
 rw [← pg_, ← pg_, yl_, List.length_reverse]
theorem data_inj {s t : ByteArray} (h : s.data.toList = t.data.toList) : s = t := by
 cases s; cases t
 congr 1
 exact Array.ext' h
theorem flip_flip (s : ByteArray) : ok_ (ok_ s) = s := data_inj (by rw [yl_, yl_, List.reverse_reverse])
theorem da1_ (s : ByteArray) : hf_ (ok_ s) = hf_ s := by
 unfold hf_
 rw [yu_, yl_, List.all_reverse]
instance (a b c d : Int) : Decidable (okL a b c d) := by unfold okL; infer_instance
theorem hx_ (x : Int) : offB x = true ↔ ¬ (0 ≤ x ∧ x ≤ 31) := by
 unfold offB
 rw [Bool.or_eq_true, decide_eq_true_eq, decide_eq_true_eq]; omega
theorem gw_ (a b c d : Int) : TA.mg_.f a b c d = some (decide (okL a b c d)) := by
 unfold TA.mg_.f rr_.f
 rw [if_pos (show ([a, c, d] : List Int).length ≤ 1000 by simp)]
 simp only [Option.bind_some]
 have ha : ([a, c, d] : List Int).any offB = true ↔ ¬ ((0 ≤ a ∧ a ≤ 31) ∧ (0 ≤ c ∧ c ≤ 31) ∧ (0 ≤ d ∧ d ≤ 31)) := by
  rw [List.any_cons, List.any_cons, List.any_cons, List.any_nil, Bool.or_false, Bool.or_eq_true, Bool.or_eq_true, hx_, hx_, hx_]
  omega
 by_cases h : ([a, c, d] : List Int).any offB = true
 ·rw [if_pos h, decide_eq_false (by have := ha.1 h; unfold okL; omega)]
 rw [if_neg h]
 have := Decidable.not_not.1 (fun q => h (ha.2 q))
 by_cases h4 : b ≥ 0
 ·rw [if_pos h4]
  congr 1
  rw [decide_eq_decide]; unfold okL; omega
 ·rw [if_neg h4, decide_eq_false (by unfold okL; omega)]
theorem bb1_ (a b c d : Int) : rk_.f a b c d = some (decide (okL a b c d)) := gw_ a b c d
def symL (a b c d : Int) : List Int := [a, b / 1024, b / 32 % 32, b % 32, c, d]
def zk1_ (a b c d : Int) : List Int × Int := if okL a b c d then (symL a b c d, 0) else ([], 2)
theorem sym_eq {a b c d : Int} (h : okL a b c d) : ([a, wrap64 (Int.tdiv b 1024), Int.tmod (wrap64 (Int.tdiv b 32)) 32, Int.tmod b 32, c, d] : List Int) = symL a b c d := by
 unfold okL at h
 have e1 : Int.tdiv b 1024 = b / 1024 := Int.tdiv_eq_ediv_of_nonneg Qa
 have e2 : Int.tdiv b 32 = b / 32 := Int.tdiv_eq_ediv_of_nonneg Qa
 have e3 : Int.tmod b 32 = b % 32 := Int.tmod_eq_emod_of_nonneg Qa
 have e4 : Int.tmod (b / 32) 32 = b / 32 % 32 := Int.tmod_eq_emod_of_nonneg Qa
 rw [e1, e2, e3, show wrap64 (b / 1024) = b / 1024 from by unfold wrap64; omega, show wrap64 (b / 32) = b / 32 from by unfold wrap64; omega, e4]
 rfl
theorem ux_ (a b c d : Int) : TA.if_.f a b c d = some (zk1_ a b c d) := by
 unfold TA.if_.f zk1_
 rw [gw_]
 simp only [Option.bind_some]
 by_cases h : okL a b c d
 ·rw [decide_eq_true h, if_pos rfl, if_pos h, sym_eq h]
 ·rw [decide_eq_false h, if_neg Qc, if_neg h]
theorem zz_ {x : Int} (h : 0 ≤ x ∧ x ≤ 31) : isEl x = true := by
 unfold isEl
 first | (rw [Bool.and_eq_true, decide_eq_true_eq, decide_eq_true_eq]; omega) | (simp; omega)
theorem xh_ {a b c d : Int} (h : okL a b c d) : ij_ (symL a b c d) = true := by
 unfold okL at h
 have h1 : isEl a = true := zz_ h.1
 have h2 : isEl (b / 1024) = true := zz_ Qa
 have h3 : isEl (b / 32 % 32) = true := zz_ Qa
 have h4 : isEl (b % 32) = true := zz_ Qa
 have h5 : isEl c = true := zz_ h.2.2.1
 have h6 : isEl d = true := zz_ h.2.2.2
 unfold ij_ symL
 simp [h1, h2, h3, h4, h5, h6]
theorem oy_ (s : ByteArray) (n : Nat) : (s.extract 0 n).data.toList = s.data.toList.take n := by
 rw [ByteArray.data_extract, Array.toList_extract]
 simp [List.extract]
theorem ny_ (s : ByteArray) (n : Nat) : (s.extract n s.size).data.toList = s.data.toList.drop n := by
 rw [ByteArray.data_extract, Array.toList_extract]
 have hl := pg_ s
 simp only [List.extract]
 rw [List.take_of_length_le (by rw [List.length_drop]; omega)]
def begB (s : ByteArray) : Bool := decide (4 ≤ (s.data.toList.take 7).count 49) && decide (4 ≤ (s.data.toList.drop 67).count 48)
theorem ws_ (s : ByteArray) (h : s.size = 74) : nf_.f s = some (begB s) := by
 unfold nf_.f TA.ej_.f begB
 rw [if_pos Qa, if_pos Qa, iv_, oy_]
 simp only [Option.bind_some]
 rw [iv_, ny_]
 simp only [Option.bind_some]
 by_cases h1 : 4 ≤ (s.data.toList.take 7).count 49
 ·rw [if_pos Qa, if_pos Qa, decide_eq_true h1, Bool.true_and]
  congr 1
  rw [decide_eq_decide]; omega
 ·rw [if_neg Qa, decide_eq_false h1, Bool.false_and]
def upS (s : ByteArray) : ByteArray × Int := if hf_ s = true then (if begB s = true then (s, 0) else if begB (ok_ s) = true then (ok_ s, 0) else (⟨#[]⟩, 26)) else (⟨#[]⟩, 7)
theorem sx_ (s : ByteArray) : of_.f s = some (upS s) := by
 unfold of_.f upS
 rw [bw_]
 simp only [Option.bind_some]
 by_cases h : hf_ s = true
 rotate_left
 ·rw [if_neg h, if_neg h]
 obtain ⟨h74, _⟩ := nj_ h
 have h74' : (ok_ s).size = 74 := by rw [yu_, h74]
 rw [if_pos h, if_pos h, hz_ s Qa]
 simp only [Option.bind_some]
 rw [ws_ s h74]
 simp only [Option.bind_some]
 by_cases h1 : begB s = true
 ·rw [if_pos h1, if_pos h1]
 rw [if_neg h1, if_neg h1, ws_ _ h74']
 simp only [Option.bind_some]
 by_cases h2 : begB (ok_ s) = true
 ·rw [if_pos h2, if_pos h2]
 ·rw [if_neg h2, if_neg h2]
theorem xe1_ (s : ByteArray) (h : s.size = 74) : begB (ok_ s) = (decide (4 ≤ (s.data.toList.take 7).count 48) && decide (4 ≤ (s.data.toList.drop 67).count 49)) := by
 unfold begB
 have hl := pg_ s
 rw [yl_, List.take_reverse, List.drop_reverse, List.count_reverse, List.count_reverse, hl, h, Bool.and_comm]
theorem gs_ (s : ByteArray) (i : Nat) (h : i < s.data.toList.length) : qf_ s i = ((s.data.toList[i]).toNat : Int) := by
 unfold qf_ numsOf
 rw [List.getD_eq_getElem?_getD, List.getElem?_map, List.getElem?_eq_getElem h]
 rfl
theorem bf1_ {s : ByteArray} (h : hf_ s = true) (j : Nat) (hj : j < 74) : qf_ s j = 48 ∨ qf_ s j = 49 ∨ qf_ s j = 63 := by
 obtain ⟨h74, ha⟩ := nj_ h
 have hl := pg_ s
 have hlt : j < s.data.toList.length := by omega
 have := List.all_eq_true.1 ha _ (List.getElem_mem hlt)
 unfold chB at this
 rw [Bool.or_eq_true, Bool.or_eq_true, beq_iff_eq, beq_iff_eq, beq_iff_eq] at this
 rw [gs_ s j hlt]
 rcases this with (h | h) | h
 ·rw [h]; exact .inl rfl
 ·rw [h]; exact .inr (.inl rfl)
 ·rw [h]; exact .inr (.inr rfl)
def ih1_ (s : ByteArray) : List Int × Int := if hf_ s = true then (qg_ s, 0) else ([], 7)
theorem iz_ (s : ByteArray) : mi_.f s = some (ih1_ s) := by
 unfold mi_.f ih1_
 rw [show TA.tf_.f s = some (hf_ s) from bw_ s]
 simp only [Option.bind_some]
 by_cases h : hf_ s = true
 ·rw [if_pos h, if_pos h]
 ·rw [if_neg h, if_neg h]
def lf1_ (a b c d : Int) : ByteArray × Int := if okL a b c d then (yh_ (encC (symL a b c d)), 0) else (⟨#[]⟩, 2)
theorem gj1_ {a b c d : Int} (h : okL a b c d) : encS (symL a b c d) = (encC (symL a b c d), 0) := by
 unfold encS
 rw [if_pos (xh_ h)]
theorem sj_ {a b c d : Int} (h : okL a b c d) : (encC (symL a b c d)).length = 12 := by
 rw [oq_ (xh_ h)]; rfl
theorem qt_ {a b c d : Int} (h : okL a b c d) : tl_ (encC (symL a b c d)) = true := (uo_ (fh_ (il_ (xh_ h))).1).1
theorem gz_ (a b c d : Int) : vj_.f a b c d = some (lf1_ a b c d) := by
 unfold vj_.f lf1_
 rw [ux_]
 simp only [Option.bind_some]
 unfold zk1_
 by_cases h : okL a b c d
 rotate_left
 ·rw [if_neg h, if_neg h, if_neg Qc]
 rw [if_pos h, if_pos h, if_pos rfl]
 unfold zu_.f
 rw [if_pos (by unfold symL; simp), gj1_ h]
 simp only [Option.bind_some]
 rw [if_pos ⟨trivial, qt_ h, by rw [sj_ h]; omega⟩]
theorem sn_ (l : List Int) : (l.flatMap fun x => vh_ x 5).length = 5 * l.length := by
 induction l with
 | nil => rfl
 | cons a l ih => rw [List.flatMap_cons, List.length_append, ih, cl_, List.length_cons]; omega
theorem gm_ (ws : List Int) (h : ws.length = 12) : (yh_ ws).size = 74 := by
 rw [← pg_]
 show (ci_ ws ws.length ++ gp_).length = 74
 unfold ci_
 rw [List.take_length, List.length_append, List.length_append, sn_, h]; rfl
theorem bit_ch (x : Int) (j : Nat) : chB (bitB x j) = true := by
 unfold bitB
 split <;> rfl
theorem xm_ (ws : List Int) (h : ws.length = 12) : hf_ (yh_ ws) = true := by
 unfold hf_
 rw [gm_ ws h, decide_eq_true rfl, Bool.true_and]
 show (ci_ ws ws.length ++ gp_).all chB = true
 unfold ci_
 rw [List.all_append, List.all_append, List.all_flatMap]
 have : (ws.take ws.length).all (fun x => (vh_ x 5).all chB) = true := by
  rw [List.all_eq_true]
  intro x _
  unfold vh_
  rw [List.all_map, List.all_eq_true]
  intro j _
  exact bit_ch x j
 rw [this]; rfl
theorem fj_ (s : ByteArray) : (qg_ s).length = 12 := by unfold qg_; rw [List.length_map, List.length_range]
theorem sy_ : ∀ (l : List Int) (i k : Nat), i < l.length → k < 5 → ∀ h : i * 5 + k < (l.flatMap fun x => vh_ x 5).length, (l.flatMap fun x => vh_ x 5)[i * 5 + k] = bitB (l.getD i 0) k
 | [], i, k, hi, _ => by simp at hi
 | a :: l, 0, k, _, hk => by
  intro h
  simp only [List.flatMap_cons] at h ⊢
  rw [List.getElem_append_left (by rw [cl_]; omega)]
  simp [vh_]
 | a :: l, i + 1, k, hi, hk => by
  intro h
  simp only [List.flatMap_cons] at h ⊢
  rw [List.getElem_append_right (by rw [cl_]; omega)]
  have e : (i + 1) * 5 + k - (vh_ a 5).length = i * 5 + k := by rw [cl_]; omega
  have := sy_ l i k (by simpa using hi) hk (by rw [sn_]; simp at hi; omega)
  simp only [e]
  rw [this]
  simp
theorem oj_ (ws : List Int) : (yh_ ws).data.toList = ix_ ++ ((ws.flatMap fun x => vh_ x 5) ++ gp_) := by
 show ci_ ws ws.length ++ gp_ = _
 unfold ci_
 rw [List.take_length, List.append_assoc]
theorem su_ (ws : List Int) (hl : ws.length = 12) (i k : Nat) (hi : i < 12) (hk : k < 5) : qf_ (yh_ ws) (7 + i * 5 + k) = ((bitB (ws.getD i 0) k).toNat : Int) := by
 have hs := gm_ ws hl
 have hz := pg_ (yh_ ws)
 rw [gs_ _ _ Qa]
 have hf := sn_ ws
 have : (yh_ ws).data.toList[7 + i * 5 + k]'Qa = bitB (ws.getD i 0) k := by
  have h3 : ∀ (L : List UInt8) (e : (yh_ ws).data.toList = L) (h : 7 + i * 5 + k < L.length), (yh_ ws).data.toList[7 + i * 5 + k]'Qa = L[7 + i * 5 + k] := by
   intro L e h; subst e; rfl
  rw [h3 _ (oj_ ws) (by rw [← oj_]; omega)]
  rw [List.getElem_append_right (by show 7 ≤ _; omega)]
  rw [List.getElem_append_left (by rw [hf]; show 7 + i * 5 + k - 7 < _; omega)]
  have := sy_ ws i k Qa hk Qa
  rw [← this]
  congr 1
  show 7 + i * 5 + k - 7 = i * 5 + k
  omega
 rw [this]
theorem wb1_ : ∀ x : Fin 32, (((((0 * 2 + (((bitB (x.1 : Int) 0).toNat : Int) - 48) % 256) * 2 + (((bitB (x.1 : Int) 1).toNat : Int) - 48) % 256) * 2 + (((bitB (x.1 : Int) 2).toNat : Int) - 48) % 256) * 2 + (((bitB (x.1 : Int) 3).toNat : Int) - 48) % 256) * 2 + (((bitB (x.1 : Int) 4).toNat : Int) - 48) % 256) = (x.1 : Int) := by decide +kernel
theorem bit_63 (x : Int) (k : Nat) : ((bitB x k).toNat : Int) ≠ 63 := by
 unfold bitB
 split <;> decide
theorem lr_ (ws : List Int) (hl : ws.length = 12) (he : tl_ ws = true) : qg_ (yh_ ws) = ws := by
 apply List.ext_getElem (by rw [fj_, hl])
 intro i h1 h2
 have hi : i < 12 := by omega
 simp only [qg_, List.getElem_map, List.getElem_range]
 have hq : ¬ hasQ (yh_ ws) i = true := by
  unfold hasQ
  rw [List.any_eq_true]
  rintro ⟨k, hk, h⟩
  rw [List.mem_range] at hk
  have h := of_decide_eq_true h
  rw [su_ ws hl i k hi hk] at h
  exact bit_63 _ _ h
 have hx := kn_ he i h2
 unfold isEl at hx
 rw [Bool.and_eq_true, decide_eq_true_eq, decide_eq_true_eq] at hx
 have hg : ws.getD i 0 = ws[i] := by rw [List.getD_eq_getElem?_getD, List.getElem?_eq_getElem h2]; rfl
 unfold symS
 rw [if_neg hq]
 have hb := fun k hk => su_ ws hl i k hi hk
 rw [hg] at hx hb
 obtain ⟨n, hn⟩ := Int.eq_ofNat_of_zero_le hx.1
 have := wb1_ ⟨n, Qa⟩
 simp only at this
 simp only [symTo]
 rw [hb 0 Qa, hb 1 Qa, hb 2 Qa, hb 3 Qa, hb 4 Qa, hn]
 exact this
theorem piece (s : ByteArray) (hs : s.size ≤ 100000) (i : Nat) (hi : i < s.size) (c : UInt8) (p : Option ByteArray → Prop) (h : p (some ((s.extract 0 i ++ ⟨#[c]⟩) ++ s.extract (i + 1) s.size))) :
  p (if (i : Int) ≤ (s.size : Int) then (if (s.extract 0 (i : Int).toNat).size + 1 ≤ 9223372036854775807 then (if 0 ≤ (wrap64 ((i : Int) + 1)) then (if (wrap64 ((i : Int) + 1)) ≤ (s.size : Int) then (if ((s.extract 0 (i : Int).toNat) ++ (⟨#[c]⟩ : ByteArray)).size + (s.extract ((wrap64 ((i : Int) + 1)) : Int).toNat s.size).size ≤ 9223372036854775807 then (some (((s.extract 0 (i : Int).toNat) ++ (⟨#[c]⟩ : ByteArray)) ++ (s.extract ((wrap64 ((i : Int) + 1)) : Int).toNat s.size))) else (none)) else (none)) else (none)) else (none)) else (none)) := by
 have e : wrap64 ((i : Int) + 1) = ((i + 1 : Nat) : Int) := by unfold wrap64; omega
 have h1 : (⟨#[c]⟩ : ByteArray).size = 1 := rfl
 rw [e, Int.toNat_natCast, Int.toNat_natCast, if_pos Qa, if_pos (by rw [ByteArray.size_extract]; omega), if_pos Qa, if_pos Qa, if_pos (by rw [ByteArray.size_append, ByteArray.size_extract, ByteArray.size_extract]; omega)]
 exact h
def dsN (a b : List Int) : Nat → Nat
 | 0 => 0
 | m + 1 => dsN a b m + if a.getD m 0 = b.getD m 0 then 0 else 1
theorem dsN_le (a b : List Int) (m : Nat) : dsN a b m ≤ m := by
 induction m with
 | zero => exact Nat.le_refl _
 | succ m ih => simp only [dsN]; split <;> omega
theorem dj1_ (a b : List Int) (m : Nat) : dsN a b m = (posN (fun i => decide (a.getD i 0 ≠ b.getD i 0)) m).length := by
 induction m with
 | zero => rfl
 | succ m ih =>
  simp only [dsN, posN, ih, List.length_append]
  congr 1
  by_cases h : a.getD m 0 = b.getD m 0
  ·rw [if_pos h, if_neg (by simpa using h)]; rfl
  ·rw [if_neg h, if_pos (by simpa using h)]; rfl
theorem cj1_ (a b : List Int) (hl : a.length = b.length) (hn : a.length ≤ 1000) : ∀ (d i k : Nat), i + d = a.length → d < k → mc_.l0 k a b ((dsN a b i : Nat) : Int) (a.length : Int) (i : Int) = some ((dsN a b a.length : Nat) : Int) := by
 intro d
 induction d with
 | zero =>
  intro i k hi hk
  obtain ⟨k, rfl⟩ : ∃ m, k = m + 1 := ⟨k - 1, Qa⟩
  simp only [mc_.l0]
  rw [if_neg Qa, show i = a.length from by omega]
 | succ d ih =>
  intro i k hi hk
  obtain ⟨k, rfl⟩ : ∃ m, k = m + 1 := ⟨k - 1, Qa⟩
  have hi1 : wrap64 ((i : Int) + 1) = ((i + 1 : Nat) : Int) := by unfold wrap64; omega
  have hle := dsN_le a b i
  have g := ih (i + 1) k Qa Qa
  simp only [dsN] at g
  simp only [mc_.l0]
  rw [if_pos Qa, if_pos Qa, if_pos Qa, if_pos Qa, df_, df_, hi1]
  by_cases h : a.getD i 0 = b.getD i 0
  ·rw [if_pos h] at g ⊢
   exact g
  rw [if_neg h] at g ⊢
  rw [show wrap64 (((dsN a b i : Nat) : Int) + 1) = ((dsN a b i + 1 : Nat) : Int) from by unfold wrap64; omega]
  exact g
theorem dist_f (a b : List Int) (hn : a.length ≤ 1000) (k : Nat) (hk : 1001 ≤ k) : mc_.f k a b = some (if a.length = b.length then ((dsN a b a.length : Nat) : Int) else -1) := by
 unfold mc_.f
 by_cases hl : a.length = b.length
 ·rw [if_pos Qa, if_pos hl]
  exact cj1_ a b hl hn a.length 0 k Qa Qa
 ·rw [if_neg Qa, if_neg hl]
theorem vx_ {a b c d a' b' c' d' : Int} (h : okL a b c d) (h' : okL a' b' c' d') (hn : b ≠ b' ∨ c ≠ c') (k : Nat) (hk : 1001 ≤ k) : ∃ n : Int, mc_.f k (encC (symL a b c d)) (encC (symL a' b' c' d')) = some n ∧ 7 ≤ n := by
 have l1 := sj_ h
 have l2 := sj_ h'
 rw [dist_f _ _ Qa k hk, if_pos Qa]
 refine ⟨_, rfl, ?_⟩
 refine Int.not_lt.1 fun hlt => ?_
 have h6 : (posN (fun i => decide ((encC (symL a b c d)).getD i 0 ≠ (encC (symL a' b' c' d')).getD i 0)) (encC (symL a b c d)).length).length ≤ 6 := by
  rw [← dj1_]; omega
 have e := vz_ (il_ (xh_ h)) (il_ (xh_ h')) Qa _ (fun i _ hi => by
  have := of_decide_eq_false hi
  exact (Classical.not_not.1 this).symm) h6
 have es : symL a b c d = symL a' b' c' d' := by
  have x1 := rt_ (xh_ h)
  have x2 := rt_ (xh_ h')
  rw [← x1, ← x2, e]; rfl
 unfold symL at es
 simp only [List.cons.injEq] at es
 unfold okL at h h'
 omega
def chC (v : Int) (b : UInt8) : UInt8 := if v = 1 then 63 else if b = 48 then 49 else 48
def chS (s : ByteArray) (i : Nat) (v : Int) : ByteArray := ⟨(s.data.toList.set i (chC v (s.data.toList.getD i 0))).toArray⟩
theorem ek_ (s : ByteArray) (i : Nat) (v : Int) : (chS s i v).data.toList = s.data.toList.set i (chC v (s.data.toList.getD i 0)) := rfl
theorem fy_ (s : ByteArray) (i : Nat) (v : Int) : (chS s i v).size = s.size := by rw [← pg_, ← pg_, ek_, List.length_set]
theorem lg1_ (s : ByteArray) (i : Nat) (hi : i < s.size) (c : UInt8) : ((s.extract 0 i ++ ⟨#[c]⟩) ++ s.extract (i + 1) s.size) = (⟨(s.data.toList.set i c).toArray⟩ : ByteArray) := by
 apply data_inj
 have hl := pg_ s
 have e : ((s.extract 0 i ++ (⟨#[c]⟩ : ByteArray)) ++ s.extract (i + 1) s.size).data.toList = (s.extract 0 i).data.toList ++ [c] ++ (s.extract (i + 1) s.size).data.toList := by simp
 rw [e, oy_, ny_, List.set_eq_take_append_cons_drop, if_pos Qa]
 simp
theorem fq_ (s : ByteArray) (hs : s.size ≤ 100000) (i : Nat) (hi : i < s.size) (v : Int) (k : Nat) (hk : 1 ≤ k) : kb_.f k s (i : Int) v = some (chS s i v) := by
 obtain ⟨k, rfl⟩ : ∃ m, k = m + 1 := ⟨k - 1, Qa⟩
 have hlt : i < s.data.toList.length := by rw [pg_]; exact hi
 have hg : s.data.toList.getD i 0 = s.data.toList[i] := by rw [List.getD_eq_getElem?_getD, List.getElem?_eq_getElem hlt]; rfl
 have P : ∀ c, chC v (s.data.toList[i]) = c → (fun o => o = some (chS s i v)) (some ((s.extract 0 i ++ ⟨#[c]⟩) ++ s.extract (i + 1) s.size)) := by
  intro c hc
  show some _ = some _
  rw [lg1_ s i hi c]
  unfold chS
  rw [hg, hc]
 have hb := bt_iff s i hlt 48
 unfold kb_.f
 rw [if_neg Qa, decide_eq_false Qa]
 simp only [kb_.j0]
 rw [if_neg Qc, if_pos Qa, if_pos Qa]
 by_cases h : Go.Proofs.Zw.PrintWords.bt s (i : Int) = 48
 ·have h48 : s.data.toList[i] = 48 := hb.1 (h.trans rfl)
  rw [if_pos h]
  by_cases h1 : v = 1
  ·rw [if_pos h1]
   exact piece s hs i hi 63 (fun o => o = some (chS s i v)) (P 63 (by unfold chC; rw [if_pos h1]))
  rw [if_neg h1]
  exact piece s hs i hi 49 (fun o => o = some (chS s i v)) (P 49 (by unfold chC; rw [if_neg h1, if_pos h48]))
 have h48 : s.data.toList[i] ≠ 48 := fun q => h ((hb.2 q).trans rfl)
 rw [if_neg h]
 by_cases h1 : v = 1
 ·rw [if_pos h1]
  exact piece s hs i hi 63 (fun o => o = some (chS s i v)) (P 63 (by unfold chC; rw [if_pos h1]))
 rw [if_neg h1]
 exact piece s hs i hi 48 (fun o => o = some (chS s i v)) (P 48 (by unfold chC; rw [if_neg h1, if_neg h48]))
theorem ln_ (s : ByteArray) (j : Nat) : qf_ s j = ((s.data.toList[j]?).map fun b => (b.toNat : Int)).getD 0 := by
 unfold qf_ numsOf
 rw [List.getD_eq_getElem?_getD, List.getElem?_map]
theorem mn_ (s : ByteArray) (i : Nat) (v : Int) (j : Nat) (h : j ≠ i) : qf_ (chS s i v) j = qf_ s j := by
 rw [ln_, ln_, ek_, List.getElem?_set, if_neg (fun q => h q.symm)]
theorem bc1_ (s : ByteArray) (i : Nat) (v : Int) (h : i < s.size) : qf_ (chS s i v) i = ((chC v (s.data.toList.getD i 0)).toNat : Int) := by
 have hl := pg_ s
 rw [ln_, ek_, List.getElem?_set, if_pos rfl, if_pos Qa]; rfl
theorem uz_ (s : ByteArray) (i : Nat) (h : i < s.size) : qf_ s i = ((s.data.toList.getD i 0).toNat : Int) := by
 have hl := pg_ s
 rw [ln_, List.getD_eq_getElem?_getD, List.getElem?_eq_getElem Qa]; rfl
theorem ch_q (s : ByteArray) (i : Nat) (h : i < s.size) : qf_ (chS s i 1) i = 63 := by rw [bc1_ s i 1 h]; rfl
theorem ch_bit (s : ByteArray) (i : Nat) (h : i < s.size) (v : Int) (hv : v ≠ 1) (hb : qf_ s i = 48 ∨ qf_ s i = 49) : qf_ (chS s i v) i = 97 - qf_ s i := by
 have e := uz_ s i h
 rw [bc1_ s i v h]
 unfold chC
 rw [if_neg hv]
 by_cases h48 : s.data.toList.getD i 0 = 48
 ·rw [if_pos h48, e, h48]; rfl
 rw [if_neg h48]
 have : (s.data.toList.getD i 0).toNat ≠ (48 : UInt8).toNat := fun q => h48 (UInt8.toNat_inj.1 q)
 have h3 : (48 : UInt8).toNat = 48 := rfl
 omega
theorem chC_ch (v : Int) (b : UInt8) : chB (chC v b) = true := by
 unfold chC
 split
 ·rfl
 ·split <;> rfl
theorem nn_ {s : ByteArray} (h : hf_ s = true) (i : Nat) (v : Int) : hf_ (chS s i v) = true := by
 obtain ⟨h1, h2⟩ := nj_ h
 unfold hf_
 rw [fy_, h1, decide_eq_true rfl, Bool.true_and, ek_, List.all_eq_true]
 intro x hx
 rcases List.mem_or_eq_of_mem_set hx with h3 | h3
 ·exact List.all_eq_true.1 h2 x h3
 ·rw [h3]; exact chC_ch _ _
theorem vl_ (a b : UInt8) : ∀ (l : List UInt8) (i : Nat), l.count b ≤ (l.set i a).count b + 1
 | [], _ => by simp
 | x :: l, 0 => by
  simp only [List.set_cons_zero, List.count_cons]
  split <;> split <;> omega
 | x :: l, i + 1 => by
  have := vl_ a b l i
  simp only [List.set_cons_succ, List.count_cons]
  split <;> omega
def K1 (s : ByteArray) : Nat := (s.data.toList.take 7).count 49
def K0 (s : ByteArray) : Nat := (s.data.toList.drop 67).count 48
theorem k1_lo (s : ByteArray) (i : Nat) (v : Int) : K1 s ≤ K1 (chS s i v) + 1 := by
 unfold K1
 rw [ek_, List.take_set]
 exact vl_ _ _ _ _
theorem wj1_ (s : ByteArray) (i : Nat) (v : Int) (h : 7 ≤ i) : K1 (chS s i v) = K1 s := by
 unfold K1
 rw [ek_, List.take_set_of_le h]
theorem k0_hi (s : ByteArray) (i : Nat) (v : Int) : K0 s ≤ K0 (chS s i v) + 1 := by
 unfold K0
 rw [ek_, List.drop_set]
 split
 ·exact Nat.le_succ _
 ·exact vl_ _ _ _ _
theorem vj1_ (s : ByteArray) (i : Nat) (v : Int) (h : i < 67) : K0 (chS s i v) = K0 s := by
 unfold K0
 rw [ek_, List.drop_set, if_pos h]
theorem er_ {s t : ByteArray} (i : Nat) (h : ∀ k, k < 5 → qf_ s (7 + i * 5 + k) = qf_ t (7 + i * 5 + k)) : symS s i = symS t i := by
 have h0 := h 0 Qa
 have h1 := h 1 Qa
 have h2 := h 2 Qa
 have h3 := h 3 Qa
 have h4 := h 4 Qa
 have hq : hasQ s i = hasQ t i := by
  unfold hasQ
  rw [show List.range 5 = [0, 1, 2, 3, 4] from rfl]
  simp only [List.any_cons, List.any_nil, h0, h1, h2, h3, h4]
 unfold symS
 rw [hq]
 simp only [symTo, h0, h1, h2, h3, h4]
theorem ib1_ {s t : ByteArray} (h : ∀ j, 7 ≤ j → j < 67 → qf_ s j = qf_ t j) : qg_ s = qg_ t := by
 unfold qg_
 refine List.map_congr_left fun i hi => er_ i fun k hk => ?_
 have := List.mem_range.1 hi
 exact h _ Qa Qa
theorem no_q {s : ByteArray} {i : Nat} (h : 0 ≤ symS s i) : ∀ k, k < 5 → qf_ s (7 + i * 5 + k) ≠ 63 := by
 intro k hk e
 have hq : hasQ s i = true := by
  unfold hasQ
  rw [List.any_eq_true]
  exact ⟨k, List.mem_range.2 hk, decide_eq_true e⟩
 unfold symS at h
 rw [if_pos hq] at h
 omega
theorem fu_ {s : ByteArray} {i : Nat} (h : ∀ k, k < 5 → qf_ s (7 + i * 5 + k) = 48 ∨ qf_ s (7 + i * 5 + k) = 49) : symS s i = qf_ s (7 + i * 5 + 0) * 16 + qf_ s (7 + i * 5 + 1) * 8 + qf_ s (7 + i * 5 + 2) * 4 + qf_ s (7 + i * 5 + 3) * 2 + qf_ s (7 + i * 5 + 4) - 1488 := by
 have hq : ¬ hasQ s i = true := by
  unfold hasQ
  rw [List.any_eq_true]
  rintro ⟨k, hk, e⟩
  have e := of_decide_eq_true e
  rcases h k (List.mem_range.1 hk) with h1 | h1 <;> omega
 have h0 := h 0 Qa
 have h1 := h 1 Qa
 have h2 := h 2 Qa
 have h3 := h 3 Qa
 have h4 := h 4 Qa
 unfold symS
 rw [if_neg hq]
 simp only [symTo]
 have m : ∀ x : Int, (x = 48 ∨ x = 49) → (x - 48) % 256 = x - 48 := fun x hx => by omega
 rw [m _ h0, m _ h1, m _ h2, m _ h3, m _ h4]
 omega
theorem xb1_ {s : ByteArray} (hs : hf_ s = true) {i : Nat} (hi : i < 12) (h : 0 ≤ symS s i) : ∀ k, k < 5 → qf_ s (7 + i * 5 + k) = 48 ∨ qf_ s (7 + i * 5 + k) = 49 := by
 intro k hk
 have h1 := no_q h k hk
 rcases bf1_ hs (7 + i * 5 + k) Qa with h2 | h2 | h2
 ·exact .inl h2
 ·exact .inr h2
 ·exact absurd h2 h1
theorem ke1_ {s : ByteArray} (hs : hf_ s = true) {i : Nat} (hi : i < 12) : -1 ≤ symS s i ∧ symS s i ≤ 31 := by
 by_cases h : 0 ≤ symS s i
 ·have hb := xb1_ hs hi h
  have h0 := hb 0 Qa
  have h1 := hb 1 Qa
  have h2 := hb 2 Qa
  have h3 := hb 3 Qa
  have h4 := hb 4 Qa
  rw [fu_ hb]; omega
 have hq : hasQ s i = true := by
  cases hq : hasQ s i with
  | true => rfl
  | false =>
   refine absurd ?_ h
   unfold symS
   rw [hq, if_neg Qc]
   exact (nz_ s i 5 Qa).1
 unfold symS
 rw [if_pos hq]; omega
theorem hit_q {s : ByteArray} (hs : hf_ s = true) {i k : Nat} (hi : i < 12) (hk : k < 5) : symS (chS s (7 + i * 5 + k) 1) i = -1 := by
 have h74 := (nj_ hs).1
 have hq : hasQ (chS s (7 + i * 5 + k) 1) i = true := by
  unfold hasQ
  rw [List.any_eq_true]
  exact ⟨k, List.mem_range.2 hk, decide_eq_true (ch_q s _ Qa)⟩
 unfold symS
 rw [if_pos hq]
theorem hit_f {s : ByteArray} (hs : hf_ s = true) {i k : Nat} (hi : i < 12) (hk : k < 5) (h : 0 ≤ symS s i) (v : Int) (hv : v ≠ 1) : 0 ≤ symS (chS s (7 + i * 5 + k) v) i ∧ symS (chS s (7 + i * 5 + k) v) i ≠ symS s i := by
 have h74 := (nj_ hs).1
 have hb := xb1_ hs hi h
 have ht : ∀ m, m < 5 → qf_ (chS s (7 + i * 5 + k) v) (7 + i * 5 + m) = if m = k then 97 - qf_ s (7 + i * 5 + m) else qf_ s (7 + i * 5 + m) := by
  intro m hm
  by_cases e : m = k
  ·subst e
   rw [if_pos rfl, ch_bit s _ Qa v hv (hb m hm)]
  ·rw [if_neg e, mn_ s _ v _ Qa]
 have hc : ∀ m, m < 5 → qf_ (chS s (7 + i * 5 + k) v) (7 + i * 5 + m) = 48 ∨ qf_ (chS s (7 + i * 5 + k) v) (7 + i * 5 + m) = 49 := by
  intro m hm
  have := hb m hm
  rw [ht m hm]
  split <;> omega
 rw [fu_ hb, fu_ hc, ht 0 Qa, ht 1 Qa, ht 2 Qa, ht 3 Qa, ht 4 Qa]
 have h0 := hb 0 Qa
 have h1 := hb 1 Qa
 have h2 := hb 2 Qa
 have h3 := hb 3 Qa
 have h4 := hb 4 Qa
 match k, hk with
 | 0, _ => simp only [if_true, show ¬ (1 = 0) from by decide, show ¬ (2 = 0) from by decide, show ¬ (3 = 0) from by decide, show ¬ (4 = 0) from by decide, if_false]; omega
 | 1, _ => simp only [if_true, show ¬ (0 = 1) from by decide, show ¬ (2 = 1) from by decide, show ¬ (3 = 1) from by decide, show ¬ (4 = 1) from by decide, if_false]; omega
 | 2, _ => simp only [if_true, show ¬ (0 = 2) from by decide, show ¬ (1 = 2) from by decide, show ¬ (3 = 2) from by decide, show ¬ (4 = 2) from by decide, if_false]; omega
 | 3, _ => simp only [if_true, show ¬ (0 = 3) from by decide, show ¬ (1 = 3) from by decide, show ¬ (2 = 3) from by decide, show ¬ (4 = 3) from by decide, if_false]; omega
 | 4, _ => simp only [if_true, show ¬ (0 = 4) from by decide, show ¬ (1 = 4) from by decide, show ¬ (2 = 4) from by decide, show ¬ (3 = 4) from by decide, if_false]; omega
theorem mr_ (s : ByteArray) (m : Nat) (h : m < 12) : (qg_ s).getD m 0 = symS s m := by
 unfold qg_
 rw [List.getD_eq_getElem?_getD, List.getElem?_map, List.getElem?_range h]; rfl
theorem qz_ (s : ByteArray) (o k : Nat) (hk : k < 5) (v : Int) : qg_ (chS s (7 + o * 5 + k) v) = (qg_ s).set o (symS (chS s (7 + o * 5 + k) v) o) := by
 apply List.ext_getElem
 ·rw [List.length_set, fj_, fj_]
 intro m h1 h2
 rw [List.getElem_set]
 by_cases e : o = m
 ·subst e
  rw [if_pos rfl]
  simp only [qg_, List.getElem_map, List.getElem_range]
 rw [if_neg e]
 simp only [qg_, List.getElem_map, List.getElem_range]
 exact er_ m fun j hj => mn_ s _ v _ Qa
theorem ru_ : ∀ l : List UInt8, l.count 48 + l.count 49 ≤ l.length
 | [] => by simp
 | x :: l => by
  have := ru_ l
  simp only [List.count_cons, List.length_cons]
  by_cases h : x = 48
  rotate_left
  ·rw [if_neg (by simpa using h)]
   split <;> omega
  subst h
  simp only [beq_self_eq_true, if_true, show ((48 : UInt8) == 49) = false from by decide]
  simp only [Bool.false_eq_true, if_false]
  omega
def Bad (c : List Int) (s : ByteArray) (b : Nat) : Prop := 2 * errN (qg_ s) c 12 + (eraN (qg_ s) 12).length = b
structure Dam (c : List Int) (s : ByteArray) : Prop where
 strip : hf_ s = true
 k1 : 4 ≤ K1 s
 k0 : 4 ≤ K0 s
 near : ∃ b, Bad c s b ∧ b ≤ 6
theorem jc1_ {c : List Int} {s : ByteArray} (h : Dam c s) : begB s = true := by
 have h1 := h.k1
 have h0 := h.k0
 unfold K1 at h1
 unfold K0 at h0
 unfold begB
 rw [decide_eq_true h1, decide_eq_true h0]; rfl
theorem ff1_ {c : List Int} {s : ByteArray} (h : Dam c s) : begB (ok_ s) = false := by
 have h1 := h.k1
 unfold K1 at h1
 have h2 := ru_ (s.data.toList.take 7)
 rw [xe1_ _ (nj_ h.strip).1, decide_eq_false (by rw [List.length_take] at h2; omega), Bool.false_and]
theorem dam_up {c : List Int} {s t : ByteArray} (h : Dam c s) (e : t = s ∨ t = ok_ s) : upS t = (s, 0) := by
 unfold upS
 rcases e with rfl | rfl
 ·rw [if_pos h.strip, if_pos (jc1_ h)]
 ·rw [da1_, if_pos h.strip, ff1_ h, if_neg Qc, flip_flip, if_pos (jc1_ h)]
theorem gf1_ {s : ByteArray} (h : hf_ s = true) : isWord (qg_ s) (-1) = true := by
 refine gu_ (by rw [fj_]; omega) fun x hx => ?_
 unfold qg_ at hx
 obtain ⟨i, hi, rfl⟩ := List.mem_map.1 hx
 exact ke1_ h (List.mem_range.1 hi)
theorem dz_ {a b c d : Int} (h : okL a b c d) {s t : ByteArray} (hd : Dam (encC (symL a b c d)) s) (e : t = s ∨ t = ok_ s) : ge_.f t = some (a, b, c, d, ((errN (qg_ s) (encC (symL a b c d)) 12 : Nat) : Int), 0) := by
 have hl := sj_ h
 have hn : Near (qg_ s) (encC (symL a b c d)) := ⟨il_ (xh_ h), by rw [fj_, hl], by obtain ⟨b, hb, h6⟩ := hd.near; rw [fj_]; exact Nat.le_trans (Nat.le_of_eq hb) h6⟩
 unfold ge_.f
 rw [sx_, dam_up hd e]
 simp only [Option.bind_some]
 rw [if_pos trivial, iz_]
 unfold ih1_
 rw [if_pos hd.strip]
 simp only [Option.bind_some]
 unfold qq_.f
 have et : (encC (symL a b c d)).take (12 - 6) = symL a b c d := rt_ (xh_ h)
 rw [qw_, jq_ (gf1_ hd.strip) hn, fj_, et]
 simp only [Option.bind_some]
 have h6 : (symL a b c d).length = 6 := rfl
 rw [if_pos trivial]
 iterate 6 rw [if_pos Qa]
 have r0 : rd (symL a b c d) 0 = a := rfl
 have r1 : rd (symL a b c d) 1 = b / 1024 := rfl
 have r2 : rd (symL a b c d) 2 = b / 32 % 32 := rfl
 have r3 : rd (symL a b c d) 3 = b % 32 := rfl
 have r4 : rd (symL a b c d) 4 = c := rfl
 have r5 : rd (symL a b c d) 5 = d := rfl
 have hb : wrap64 (wrap64 (wrap64 (b / 1024 * 1024) + wrap64 (b / 32 % 32 * 32)) + b % 32) = b := by
  have := h
  unfold okL at this
  unfold wrap64; omega
 rw [r0, r1, r2, r3, r4, r5, hb, bb1_, decide_eq_true h]
 simp only [Option.bind_some]
 rw [if_pos trivial]
theorem uy_ {c : List Int} (hc : lf_ c = true) (hl : c.length = 12) {s : ByteArray} (hs : hf_ s = true) {o k : Nat} (ho : o < 12) (hk : k < 5) (e : symS s o = c.getD o 0) (v : Int) :
  (v = 1 → errN (qg_ (chS s (7 + o * 5 + k) v)) c 12 = errN (qg_ s) c 12 ∧ (eraN (qg_ (chS s (7 + o * 5 + k) v)) 12).length = (eraN (qg_ s) 12).length + 1) ∧
  (v ≠ 1 → errN (qg_ (chS s (7 + o * 5 + k) v)) c 12 = errN (qg_ s) c 12 + 1 ∧ (eraN (qg_ (chS s (7 + o * 5 + k) v)) 12).length = (eraN (qg_ s) 12).length) := by
 have he := (le_ _).1 (jo_ hc o Qa)
 have hp : o < (qg_ s).length := by rw [fj_]; exact ho
 have hg : (qg_ s).getD o 0 = c.getD o 0 := by rw [mr_ s o ho, e]
 constructor
 ·intro hv
  subst hv
  rw [qz_ s o k hk, hit_q hs ho hk]
  refine ⟨rc1_ hp hg Qa 12, ?_⟩
  rw [qc1_ hp Qa Qa 12, if_pos ho]
 intro hv
 obtain ⟨h1, h2⟩ := hit_f hs ho hk Qa v hv
 rw [qz_ s o k hk]
 refine ⟨?_, ?_⟩
 ·rw [jj1_ hp hg h1 Qa 12, if_pos ho]
 ·rw [vu_ hp Qa h1 12]
theorem zc1_ {c : List Int} (hc : lf_ c = true) (hl : c.length = 12) {s : ByteArray} (hs : hf_ s = true) {o k : Nat} (ho : o < 12) (hk : k < 5) (e : symS s o = c.getD o 0) (v : Int) (b : Nat) (hb : Bad c s b) : (v = 1 → Bad c (chS s (7 + o * 5 + k) v) (b + 1)) ∧ (v ≠ 1 → Bad c (chS s (7 + o * 5 + k) v) (b + 2)) := by
 obtain ⟨h1, h2⟩ := uy_ hc hl hs ho hk e v
 unfold Bad at *
 constructor
 ·intro hv
  obtain ⟨a1, a2⟩ := h1 hv
  clear h1 h2
  rw [a1, a2]
  clear a1 a2
  generalize errN (qg_ s) c 12 = x at *
  generalize (eraN (qg_ s) 12).length = y at *
  omega
 intro hv
 obtain ⟨a1, a2⟩ := h2 hv
 clear h1 h2
 rw [a1, a2]
 clear a1 a2
 generalize errN (qg_ s) c 12 = x at *
 generalize (eraN (qg_ s) 12).length = y at *
 omega
theorem zh1_ {L : List Int} (hL : L.length ≤ 600) {c : List Int} (hc : lf_ c = true) (hl : c.length = 12) {zs : List Int} (hz : zs.length = 12) (hnd : zs.Nodup) (hzr : ∀ y ∈ zs, 0 ≤ y ∧ y < 12) (n : Nat) (hn : n ≤ 12) (how : Int) (wt : Nat) (hw : (how = 1 ∧ wt = 1) ∨ (how = 0 ∧ wt = 2)) :
  ∀ (d i k b : Nat) (p : Int) (s : ByteArray), i + d = n → d + 2 < k → TA p → hf_ s = true → 4 ≤ K1 s → 4 ≤ K0 s → (∀ m : Nat, m < 12 → (∀ j, j < i → zs.getD j 0 ≠ (m : Int)) → symS s m = c.getD m 0) → Bad c s b → b + wt * d ≤ 6 →
  ∃ u t q, na_.l1 k s zs (n : Int) how (i : Int) L p = some (t, q) ∧ TA q ∧ Dam c u ∧ (t = u ∨ t = ok_ u) := by
 intro d
 induction d with
 | zero =>
  intro i k b p s hi hk hp hs h1 h0 hm hB hw6
  obtain ⟨k, rfl⟩ : ∃ m, k = m + 1 := ⟨k - 1, Qa⟩
  obtain ⟨v, q, e, v0, v1, hq⟩ := jj_ hL hp 2 Qa Qa
  have hd : Dam c s := ⟨hs, h1, h0, b, hB, Qa⟩
  have h74 := (nj_ hs).1
  simp only [na_.l1]
  rw [if_neg Qa, e]
  simp only [Option.bind_some]
  by_cases hv : v = 1
  ·rw [if_pos hv, hz_ s Qa]
   exact ⟨s, _, _, rfl, hq, hd, .inr rfl⟩
  rw [if_neg hv]
  exact ⟨s, _, _, rfl, hq, hd, .inl rfl⟩
 | succ d ih =>
  intro i k b p s hi hk hp hs h1 h0 hm hB hw6
  obtain ⟨k, rfl⟩ : ∃ m, k = m + 1 := ⟨k - 1, Qa⟩
  have h74 := (nj_ hs).1
  obtain ⟨v, q, e, v0, v1, hq⟩ := jj_ hL hp 5 Qa Qa
  obtain ⟨x, rfl⟩ := Int.eq_ofNat_of_zero_le v0
  have hx : x < 5 := by omega
  have hzi : zs.getD i 0 ∈ zs := rg_ Qa
  obtain ⟨o0, o1⟩ := hzr _ hzi
  obtain ⟨o, ho⟩ := Int.eq_ofNat_of_zero_le o0
  have ho12 : o < 12 := by omega
  have hfresh : ∀ j, j < i → zs.getD j 0 ≠ (o : Int) := by
   intro j hj hjo
   have hp := List.pairwise_iff_getElem.1 hnd j i Qa Qa hj
   rw [List.getD_eq_getElem?_getD, List.getElem?_eq_getElem Qa] at hjo ho
   exact hp (hjo.trans ho.symm)
  have hso := hm o ho12 hfresh
  obtain ⟨hq1, hf1⟩ := zc1_ hc hl hs ho12 hx hso how b hB
  simp only [na_.l1]
  rw [if_pos Qa, if_pos Qa, if_pos Qa, e]
  simp only [Option.bind_some]
  have e3 := fq_ s Qa (7 + o * 5 + x) Qa how k Qa
  have e1 := rm_ i Qa
  have e2 : wrap64 (wrap64 (7 + wrap64 (5 * zs.getD i 0)) + (x : Int)) = ((7 + o * 5 + x : Nat) : Int) := by
   rw [ho, w64 (x := 5 * (o : Int)) Qa Qa, w64 (x := 7 + 5 * (o : Int)) Qa Qa, w64 Qa Qa]
   omega
  rw [df_, e2, e1, e3]
  clear e1 e2 e3
  simp only [Option.bind_some]
  have hm' : ∀ m : Nat, m < 12 → (∀ j, j < i + 1 → zs.getD j 0 ≠ (m : Int)) → symS (chS s (7 + o * 5 + x) how) m = c.getD m 0 := by
   intro m hm12 hmj
   have hmo : m ≠ o := fun h => hmj i Qa (by rw [ho, h])
   rw [← hm m hm12 (fun j hj => hmj j Qa)]
   exact er_ m fun j hj => mn_ s _ how _ Qa
  have g1 : 4 ≤ K1 (chS s (7 + o * 5 + x) how) := by rw [wj1_ _ _ _ Qa]; exact h1
  have g0 : 4 ≤ K0 (chS s (7 + o * 5 + x) how) := by rw [vj1_ _ _ _ Qa]; exact h0
  clear h1 h0
  rcases hw with ⟨hh, hw⟩ | ⟨hh, hw⟩
  ·subst hw
   exact ih (i + 1) k (b + 1) q _ Qa Qa hq (nn_ hs _ _) g1 g0 hm' (hq1 hh) Qa
  subst hw
  exact ih (i + 1) k (b + 2) q _ Qa Qa hq (nn_ hs _ _) g1 g0 hm' (hf1 Qa) Qa
theorem tt_ (c : List Int) : errN c c 12 = 0 := of1_ c 12
theorem wy_ {a b i : Nat} (h : 7 ≤ a + i) (h2 : a ≤ b + 1) : 7 ≤ b + (i + 1) := by omega
theorem vt_ {a i : Nat} (h : 7 ≤ a + i) (hi : i + 0 = 3) : 4 ≤ a := by omega
theorem gy_ {s : ByteArray} (h : s.size = 74) {i : Nat} (hi : i < 74) (v : Int) {k : Nat} (hk : 1 ≤ k) : kb_.f k s (i : Int) v = some (chS s i v) := fq_ s Qa i Qa v k hk
theorem dam_l0 {L : List Int} (hL : L.length ≤ 600) {c : List Int} (hc : lf_ c = true) (hl : c.length = 12) :
  ∀ (d i k : Nat) (p : Int) (s : ByteArray), i + d = 3 → d + 20 < k → TA p → hf_ s = true → 7 ≤ K1 s + i → 7 ≤ K0 s + i → qg_ s = c →
  ∃ u t q, na_.l0 k s (i : Int) L p = some (t, q) ∧ TA q ∧ Dam c u ∧ (t = u ∨ t = ok_ u) := by
 intro d
 induction d with
 | zero =>
  intro i k p s hi hk hp hs h1 h0 hw
  obtain ⟨k, rfl⟩ : ∃ m, k = m + 1 := ⟨k - 1, Qa⟩
  obtain ⟨k, rfl⟩ : ∃ m, k = m + 1 := ⟨k - 1, Qa⟩
  obtain ⟨zs, q, e, hz, hnd, hzr, hq⟩ := ik1_ hL hp 12 Qa (k + 1) Qa
  obtain ⟨v, q2, e2, v0, v1, hq2⟩ := jj_ hL hq 2 Qa Qa
  have hr : Bad c s 0 := by
   unfold Bad
   rw [hw, tt_, ly_ hc 12 Qa]; rfl
  have hm : ∀ m : Nat, m < 12 → (∀ j, j < 0 → zs.getD j 0 ≠ (m : Int)) → symS s m = c.getD m 0 := by
   intro m hm _
   rw [← mr_ s m hm, hw]
  simp only [na_.l0]
  rw [if_neg Qa, show (12 : Int) = ((12 : Nat) : Int) from rfl, e]
  simp only [Option.bind_some]
  rw [e2]
  simp only [Option.bind_some, na_.j1]
  by_cases hv : v = 1
  ·rw [if_pos hv]
   exact zh1_ hL hc hl hz hnd hzr 6 Qa 1 1 (.inl ⟨rfl, rfl⟩) 6 0 k 0 q2 s Qa Qa hq2 hs (vt_ h1 hi) (vt_ h0 hi) hm hr Qa
  rw [if_neg hv]
  exact zh1_ hL hc hl hz hnd hzr 3 Qa 0 2 (.inr ⟨rfl, rfl⟩) 3 0 k 0 q2 s Qa Qa hq2 hs (vt_ h1 hi) (vt_ h0 hi) hm hr Qa
 | succ d ih =>
  intro i k p s hi hk hp hs h1 h0 hw
  obtain ⟨k, rfl⟩ : ∃ m, k = m + 1 := ⟨k - 1, Qa⟩
  have h74 := (nj_ hs).1
  obtain ⟨v, q, e, v0, v1, hq⟩ := jj_ hL hp 7 Qa Qa
  obtain ⟨v2, q2, e2, _, _, hq2⟩ := jj_ hL hq 2 Qa Qa
  obtain ⟨v3, q3, e3, v30, v31, hq3⟩ := jj_ hL hq2 7 Qa Qa
  obtain ⟨v4, q4, e4, _, _, hq4⟩ := jj_ hL hq3 2 Qa Qa
  obtain ⟨x, rfl⟩ := Int.eq_ofNat_of_zero_le v0
  obtain ⟨y, hy0⟩ := Int.eq_ofNat_of_zero_le v30
  have hx : x < 74 := by clear h1 h0; omega
  have hy : 67 + y < 74 := by clear h1 h0; omega
  have hk1 : 1 ≤ k := by clear h1 h0; omega
  have hi3 : i ≤ 1000000 := by clear h1 h0; omega
  have hi4 : i < 3 := by clear h1 h0; omega
  have e5 : wrap64 (67 + v3) = ((67 + y : Nat) : Int) := by clear h1 h0; rw [hy0, w64 Qa Qa]; omega
  obtain ⟨z1, hz1⟩ : ∃ z1, z1 = chS s x v2 := ⟨_, rfl⟩
  obtain ⟨z, hz⟩ : ∃ z, z = chS z1 (67 + y) v4 := ⟨_, rfl⟩
  have e7 : kb_.f k s (x : Int) v2 = some z1 := by rw [hz1]; exact gy_ h74 hx v2 hk1
  have e6 : kb_.f k z1 ((67 + y : Nat) : Int) v4 = some z := by rw [hz]; exact gy_ (by rw [hz1, fy_, h74]) hy v4 hk1
  simp only [na_.l0]
  rw [if_pos Qa, e]
  simp only [Option.bind_some]
  rw [e2]
  simp only [Option.bind_some]
  rw [e7]
  simp only [Option.bind_some]
  rw [e3]
  simp only [Option.bind_some]
  rw [e4]
  simp only [Option.bind_some]
  have e1 := rm_ i hi3
  rw [e5, e1, e6]
  clear e1 e5 e6
  simp only [Option.bind_some]
  have hb : hf_ z = true := by rw [hz, hz1]; exact nn_ (nn_ hs x v2) (67 + y) v4
  have hcw : qg_ z = c := by
   rw [← hw, hz, hz1]
   exact ib1_ fun j h7 h67 => by rw [mn_ _ _ _ _ Qa, mn_ _ _ _ _ Qa]
  have g1 : 7 ≤ K1 z + (i + 1) := by rw [hz, wj1_ z1 (67 + y) v4 Qa, hz1]; exact wy_ h1 (k1_lo s x v2)
  have g0 : 7 ≤ K0 z + (i + 1) := by
   have a4 := k0_hi z1 (67 + y) v4
   rw [← hz] at a4
   refine wy_ ?_ a4
   rw [hz1, vj1_ s x v2 Qa]; exact h0
  exact ih (i + 1) k q4 z Qa Qa hq4 hb g1 g0 hcw
theorem hf1_ {L : List Int} (hL : L.length ≤ 600) {p : Int} (hp : TA p) {a b c d : Int} (h : okL a b c d) (k : Nat) (hk : 24 ≤ k) :
  ∃ t q n, na_.f k L p (yh_ (encC (symL a b c d))) = some (t, q) ∧ TA q ∧ ge_.f t = some (a, b, c, d, n, 0) := by
 have hl := sj_ h
 have e1 : (yh_ (encC (symL a b c d))).data.toList.take 7 = ix_ := by
  rw [oj_]; exact List.take_left' rfl
 have e2 : (yh_ (encC (symL a b c d))).data.toList.drop 67 = gp_ := by
  have hf := sn_ (encC (symL a b c d))
  rw [oj_, ← List.append_assoc]
  exact List.drop_left' (by rw [List.length_append, hf, hl]; rfl)
 have k1 : K1 (yh_ (encC (symL a b c d))) = 7 := by unfold K1; rw [e1]; decide
 have k0 : K0 (yh_ (encC (symL a b c d))) = 7 := by unfold K0; rw [e2]; decide
 obtain ⟨u, t, q, g1, g2, g3, g4⟩ := dam_l0 hL (il_ (xh_ h)) hl 3 0 k p (yh_ (encC (symL a b c d))) Qa Qa hp (xm_ _ hl) Qa Qa (lr_ _ hl (qt_ h))
 unfold na_.f
 exact ⟨t, q, _, g1, g2, dz_ h g3 g4⟩
theorem part_f {L : List Int} (hL : L.length ≤ 600) {p : Int} (hp : TA p) (k : Nat) (hk : 2 ≤ k) : ∃ v q, xa_.f k L p 0 = some v ∧ v.2.2.2.2.2.2 = q ∧ TA q := by
 obtain ⟨k, rfl⟩ : ∃ m, k = m + 2 := ⟨k - 2, Qa⟩
 obtain ⟨v1, q1, e1, _, _, h1⟩ := fn_ hL hp 1 12 Qa Qa Qa
 obtain ⟨v2, q2, e2, _, _, h2⟩ := jj_ hL h1 4 Qa Qa
 obtain ⟨v3, q3, e3, _, _, h3⟩ := jj_ hL h2 3 Qa Qa
 obtain ⟨v4, q4, e4, _, _, h4⟩ := jj_ hL h3 3 Qa Qa
 have J : ∀ a b c d e f q, TA q → ∃ v q', xa_.j0 (k + 2) 0 L q a b c d e f = some v ∧ v.2.2.2.2.2.2 = q' ∧ TA q' := by
  intro a b c d e f q hq
  simp only [xa_.j0]
  rw [if_neg Qa]
  simp only [xa_.j1]
  rw [if_neg Qc]
  exact ⟨_, _, rfl, rfl, hq⟩
 unfold xa_.f
 rw [e1]
 simp only [Option.bind_some]
 rw [e2]
 simp only [Option.bind_some]
 rw [e3]
 simp only [Option.bind_some]
 rw [e4]
 simp only [Option.bind_some]
 by_cases h : v4 = 0
 rotate_left
 ·rw [if_neg h]
  exact J _ _ _ _ _ _ _ h4
 obtain ⟨v5, q5, e5, v50, v51, h5⟩ := fn_ hL h4 2 5 Qa Qa Qa
 obtain ⟨v6, q6, e6, _, _, h6⟩ := jj_ hL h5 v5 Qa Qa
 obtain ⟨v7, q7, e7, _, _, h7⟩ := fn_ hL h6 1 3 Qa Qa Qa
 rw [if_pos h, e5]
 simp only [Option.bind_some]
 rw [e6]
 simp only [Option.bind_some]
 rw [e7]
 simp only [Option.bind_some]
 exact J _ _ _ _ _ _ _ h7
theorem jg1_ {L : List Int} (hL : L.length ≤ 600) (a b : Int) : ∀ (n k : Nat) (p : Int) (xs : List S100), n + 2 < k → n ≤ 1000 → xs.length + n ≤ 1000 → TA p → ∃ ys q, eb_.l0 k (n : Int) L p a b xs = some (a, b, ys, q) ∧ ys.length = xs.length + n ∧ TA q := by
 intro n
 induction n with
 | zero =>
  intro k p xs hk hn hx hp
  obtain ⟨k, rfl⟩ : ∃ m, k = m + 1 := ⟨k - 1, Qa⟩
  simp only [eb_.l0]
  rw [if_neg Qa]
  exact ⟨_, _, rfl, rfl, hp⟩
 | succ n ih =>
  intro k p xs hk hn hx hp
  obtain ⟨k, rfl⟩ : ∃ m, k = m + 1 := ⟨k - 1, Qa⟩
  obtain ⟨v, q, e, rfl, hq⟩ := part_f hL hp k Qa
  simp only [eb_.l0]
  rw [if_pos Qa, e]
  simp only [Option.bind_some]
  rw [if_pos Qa, w64_dn n Qa]
  obtain ⟨ys, q2, e2, h2, hq2⟩ := ih k _ (xs ++ [(⟨v.1, v.2.1, v.2.2.1, v.2.2.2.1, v.2.2.2.2.1, v.2.2.2.2.2.1⟩ : S100)]) Qa Qa Yv hq
  exact ⟨ys, q2, e2, by rw [h2, List.length_append, List.length_singleton]; omega, hq2⟩
theorem lk1_ {L : List Int} (hL : L.length ≤ 600) {p : Int} (hp : TA p) (a b : Int) (k : Nat) (hk : 10 ≤ k) : ∃ ys q, eb_.f k L p a b = some (a, b, ys, q) ∧ ys.length ≤ 6 ∧ TA q := by
 obtain ⟨v, q, e, v0, v1, hq⟩ := fn_ hL hp 1 6 Qa Qa Qa
 obtain ⟨n, rfl⟩ := Int.eq_ofNat_of_zero_le (show 0 ≤ v by omega)
 obtain ⟨ys, q2, e2, h2, hq2⟩ := jg1_ hL a b n k q [] Qa Qa (by simp; omega) hq
 unfold eb_.f
 rw [e]
 simp only [Option.bind_some]
 exact ⟨ys, q2, e2, by rw [h2]; simp; omega, hq2⟩
theorem gh1_ (k : Nat) (x : Bool) (a b c d e f : Int) : ∃ r, ab_.j0 (k + 1) x a b c d e f = some r := by
 simp only [ab_.j0]
 repeat (first | exact ⟨_, rfl⟩ | split)
theorem qe1_ (k : Nat) (hk : 1 ≤ k) (a b c d e f : Int) : ∃ r, ab_.f k a b c d e f = some r := by
 obtain ⟨k, rfl⟩ : ∃ m, k = m + 1 := ⟨k - 1, Qa⟩
 unfold ab_.f
 repeat (first | exact gh1_ k _ a b c d e f | split)
theorem need_f (k : Nat) (hk : 1 ≤ k) (a b c d e f : Int) : ∃ r, cd_.f k a b c d e f = some r := by
 obtain ⟨r, h⟩ := qe1_ k hk a b c d e f
 unfold cd_.f
 rw [h]
 simp only [Option.bind_some]
 repeat (first | exact ⟨_, rfl⟩ | split)
theorem pe1_ (a b : Int) (ps : List S100) (hl : ps.length ≤ 1000) : ∀ (d i k : Nat) (x : Int), i + d = ps.length → d + 1 < k → ∃ r, sa_.l0 k x (i : Int) a b ps = some r := by
 intro d
 induction d with
 | zero =>
  intro i k x hi hk
  obtain ⟨k, rfl⟩ : ∃ m, k = m + 1 := ⟨k - 1, Qa⟩
  simp only [sa_.l0]
  rw [if_neg Qa]
  exact ⟨_, rfl⟩
 | succ d ih =>
  intro i k x hi hk
  obtain ⟨k, rfl⟩ : ∃ m, k = m + 1 := ⟨k - 1, Qa⟩
  obtain ⟨r, h⟩ := qe1_ k Qa (hd_ ps (i : Int)).f0 (hd_ ps (i : Int)).f1 (hd_ ps (i : Int)).f2 (hd_ ps (i : Int)).f3 (hd_ ps (i : Int)).f4 (hd_ ps (i : Int)).f5
  simp only [sa_.l0]
  rw [if_pos Qa, if_pos Qa, h]
  simp only [Option.bind_some]
  rw [rm_ i Qa]
  split
  ·exact ih (i + 1) k _ Qa Qa
  ·exact ⟨_, rfl⟩
theorem fh1_ (a b : Int) (ps : List S100) (hl : ps.length ≤ 1000) (k : Nat) (hk : ps.length + 3 ≤ k) : ∃ r, sa_.f k a b ps = some r := by
 obtain ⟨k, rfl⟩ : ∃ m, k = m + 1 := ⟨k - 1, Qa⟩
 have J : ∀ x, ∃ r, sa_.j0 (k + 1) x a b ps = some r := by
  intro x
  simp only [sa_.j0]
  split
  ·exact ⟨_, rfl⟩
  ·exact pe1_ a b ps hl ps.length 0 k 0 Qa Qa
 unfold sa_.f
 repeat (first | exact J _ | split)
theorem dk1_ : ∀ (d k : Nat) (xs : List (List Int)), d < k → xs.length + d = 12 → ∃ pgs e, ya_.l1 k xs = some (pgs, e) ∧ pgs.length ≤ 12 := by
 intro d
 induction d with
 | zero =>
  intro k xs hk hx
  obtain ⟨k, rfl⟩ : ∃ m, k = m + 1 := ⟨k - 1, Qa⟩
  simp only [ya_.l1]
  rw [if_pos Qa, if_neg Qa]
  exact ⟨_, _, rfl, Qa⟩
 | succ d ih =>
  intro k xs hk hx
  obtain ⟨k, rfl⟩ : ∃ m, k = m + 1 := ⟨k - 1, Qa⟩
  simp only [ya_.l1]
  by_cases h : ((xs.length : Int) % 4) = 0
  ·rw [if_pos h, if_neg Qa]
   exact ⟨_, _, rfl, Qa⟩
  rw [if_neg h, if_pos Qa]
  exact ih k _ Qa Yv
theorem bz_ {xs : List (List Int)} {m : Nat} (h : ∀ y ∈ xs, y.length ≤ m) (i : Int) : (kf_ xs i).length ≤ m := by
 unfold kf_
 rw [List.getD_eq_getElem?_getD]
 cases h2 : xs[i.toNat]? with
 | none => exact Nat.zero_le _
 | some x => exact h x (List.mem_of_getElem? h2)
theorem ck1_ (a b : Int) (ps : List S100) (hl : ps.length ≤ 6) : ∀ (d i k : Nat) (xs : List (List Int)) (left : Int), i + d = ps.length → d + 20 < k → 1 ≤ xs.length → xs.length ≤ 2 + i → (∀ y ∈ xs, y.length ≤ i) → ∃ pgs e, ya_.l0 k xs left (i : Int) a b ps = some (pgs, e) ∧ pgs.length ≤ 12 := by
 intro d
 induction d with
 | zero =>
  intro i k xs left hi hk h1 h2 h3
  obtain ⟨k, rfl⟩ : ∃ m, k = m + 1 := ⟨k - 1, Qa⟩
  simp only [ya_.l0]
  rw [if_neg Qa]
  exact dk1_ (12 - xs.length) k xs Qa Qa
 | succ d ih =>
  intro i k xs left hi hk h1 h2 h3
  obtain ⟨k, rfl⟩ : ∃ m, k = m + 1 := ⟨k - 1, Qa⟩
  obtain ⟨r, h⟩ := need_f k Qa (hd_ ps (i : Int)).f0 (hd_ ps (i : Int)).f1 (hd_ ps (i : Int)).f2 (hd_ ps (i : Int)).f3 (hd_ ps (i : Int)).f4 (hd_ ps (i : Int)).f5
  have S : ∀ ys : List (List Int), 1 ≤ ys.length → ys.length ≤ 3 + i → (∀ y ∈ ys, y.length ≤ i) → ∀ lf, ∃ pgs e, ya_.l0 k (ys.set ((wrap64 ((ys.length : Int) - 1)) : Int).toNat ((kf_ ys (wrap64 ((ys.length : Int) - 1))) ++ [(i : Int)])) lf (wrap64 ((i : Int) + 1)) a b ps = some (pgs, e) ∧ pgs.length ≤ 12 := by
   intro ys y1 y2 y3 lf
   rw [rm_ i Qa]
   refine ih (i + 1) k _ lf Qa Qa (by rw [List.length_set]; omega) (by rw [List.length_set]; omega) fun y hy => ?_
   rcases List.mem_or_eq_of_mem_set hy with h4 | h4
   ·have := y3 y h4; omega
   have := bz_ y3 (wrap64 ((ys.length : Int) - 1))
   rw [h4, List.length_append, List.length_singleton]; omega
  simp only [ya_.l0]
  rw [if_pos Qa, if_pos Qa, h]
  simp only [Option.bind_some]
  have W : ∀ n : Nat, 1 ≤ n → n ≤ 100 → wrap64 ((n : Int) - 1) = (n : Int) - 1 := fun n a b => by unfold wrap64; omega
  have T : ∀ ys : List (List Int), 1 ≤ ys.length → ys.length ≤ 3 + i → (∀ y ∈ ys, y.length ≤ i) → (0 ≤ (wrap64 ((ys.length : Int) - 1))) ∧ ((wrap64 ((ys.length : Int) - 1)) < (ys.length : Int)) ∧ ((kf_ ys (wrap64 ((ys.length : Int) - 1))).length < 17592186044416) := by
   intro ys y1 y2 y3
   have := bz_ y3 (wrap64 ((ys.length : Int) - 1))
   rw [W _ y1 Qa] at this ⊢
   omega
  split
  ·have y1 : 1 ≤ (xs ++ [[]] : List (List Int)).length := by rw [List.length_append, List.length_singleton]; omega
   have y2 : (xs ++ [[]] : List (List Int)).length ≤ 3 + i := by rw [List.length_append, List.length_singleton]; omega
   have y3 : ∀ y ∈ (xs ++ [[]] : List (List Int)), y.length ≤ i := by
    intro y hy
    rcases List.mem_append.1 hy with h4 | h4
    ·exact h3 y h4
    ·rw [List.mem_singleton.1 h4]; exact Nat.zero_le _
   obtain ⟨t1, t2, t3⟩ := T _ y1 y2 y3
   rw [if_pos Qa, if_pos t1, if_pos t2, if_pos t3]
   exact S _ y1 y2 y3 _
  obtain ⟨t1, t2, t3⟩ := T _ h1 Qa h3
  rw [if_pos t1, if_pos t2, if_pos t3]
  exact S _ h1 Qa h3 _
theorem make_f (a b : Int) (ps : List S100) (hl : ps.length ≤ 6) (k : Nat) (hk : 30 ≤ k) : ∃ pgs e, ya_.f k a b ps = some (pgs, e) ∧ pgs.length ≤ 12 := by
 obtain ⟨r, h⟩ := fh1_ a b ps Qa k Qa
 unfold ya_.f
 rw [h]
 simp only [Option.bind_some]
 split
 ·exact ck1_ a b ps hl ps.length 0 k _ 30 Qa Qa Qj Qj Qj
 ·exact ⟨_, _, rfl, Qj⟩
def ExOk (n i : Nat) (l : List S58) : Prop := (∀ y ∈ l, 0 ≤ y.f0 ∧ y.f0 < (i : Int) ∧ 0 ≤ y.f2 ∧ y.f2 < (n : Int)) ∧ l.Pairwise fun a b => a.f0 < b.f0
theorem gi1_ {L : List Int} (hL : L.length ≤ 600) (num : Int) (ps : List S65) (bs : List S60) (hn1 : 1 ≤ ps.length) (hn2 : ps.length ≤ 2) : ∀ (d i k : Nat) (p : Int) (xs : List S58), i + d = 4 → d + 2 < k → TA p → xs.length ≤ i → ExOk ps.length i xs →
  ∃ ys q, ka_.l1 k 0 (i : Int) L p num ps bs xs = some (num, ps, bs, ys, q) ∧ TA q ∧ ys.length ≤ 4 ∧ ExOk ps.length 4 ys := by
 intro d
 induction d with
 | zero =>
  intro i k p xs hi hk hp hx hE
  obtain ⟨k, rfl⟩ : ∃ m, k = m + 2 := ⟨k - 2, Qa⟩
  obtain rfl : i = 4 := by omega
  simp only [ka_.l1]
  rw [if_neg Qa, if_neg Qa]
  simp only [ka_.j2]
  rw [if_neg Qc]
  exact ⟨_, _, rfl, hp, hx, hE⟩
 | succ d ih =>
  intro i k p xs hi hk hp hx hE
  obtain ⟨k, rfl⟩ : ∃ m, k = m + 1 := ⟨k - 1, Qa⟩
  obtain ⟨v, q, e, v0, v1, hq⟩ := jj_ hL hp 4 Qa Qa
  simp only [ka_.l1]
  rw [if_pos Qa, e]
  simp only [Option.bind_some]
  rw [rm_ i Qa]
  have hE' : ExOk ps.length (i + 1) xs := ⟨fun y hy => by have := hE.1 y hy; omega, hE.2⟩
  by_cases hv : v > 0
  rotate_left
  ·rw [if_neg hv]
   exact ih (i + 1) k q xs Qa Qa hq Qa hE'
  obtain ⟨v2, q2, e2, _, _, hq2⟩ := fn_ hL hq 1 2 Qa Qa Qa
  obtain ⟨v3, q3, e3, v30, v31, hq3⟩ := jj_ hL hq2 (ps.length : Int) Qa Qa
  rw [if_pos hv, e2]
  simp only [Option.bind_some]
  rw [e3]
  simp only [Option.bind_some]
  rw [if_pos (by simp; omega)]
  refine ih (i + 1) k q3 _ Qa Qa hq3 Yv ⟨fun y hy => ?_, ?_⟩
  ·rcases List.mem_append.1 hy with h | h
   ·exact hE'.1 y h
   ·rw [List.mem_singleton.1 h]
    exact ⟨by show (0 : Int) ≤ (i : Int); omega, by show (i : Int) < ((i + 1 : Nat) : Int); omega, v30, v31⟩
  refine List.pairwise_append.2 ⟨hE.2, List.pairwise_singleton _ _, fun a ha b hb => ?_⟩
  rw [List.mem_singleton.1 hb]
  exact (hE.1 a ha).2.1
theorem sit_l0 {L : List Int} (hL : L.length ≤ 600) (num : Int) : ∀ (d i k : Nat) (p : Int) (ps : List S65) (bs : List S60), i + d = 2 → d + 60 < k → TA p → ps.length = i → bs.length = i → (∀ y ∈ bs, y.f0.length ≤ 12) →
  ∃ ps' bs' ys q, ka_.l0 k 0 (i : Int) L p num ps bs = some (num, ps', bs', ys, q) ∧ TA q ∧ ys.length ≤ 4 ∧ bs'.length ≤ 2 ∧ ExOk bs'.length 4 ys ∧ ∀ y ∈ bs', y.f0.length ≤ 12 := by
 intro d
 induction d with
 | zero =>
  intro i k p ps bs hi hk hp h1 h2 h3
  obtain ⟨k, rfl⟩ : ∃ m, k = m + 1 := ⟨k - 1, Qa⟩
  obtain ⟨v, q, e, v0, v1, hq⟩ := fn_ hL hp 1 2 Qa Qa Qa
  simp only [ka_.l0]
  rw [e]
  simp only [Option.bind_some]
  rw [if_neg Qa]
  obtain ⟨ys, q2, e2, hq2, hy, hE⟩ := gi1_ hL num ps bs Qa Qa 4 0 k q [] Qa Qa hq Qj ⟨Qj, List.Pairwise.nil⟩
  exact ⟨_, _, _, _, e2, hq2, hy, Qa, by rw [h2, ← h1]; exact hE, h3⟩
 | succ d ih =>
  intro i k p ps bs hi hk hp h1 h2 h3
  obtain ⟨k, rfl⟩ : ∃ m, k = m + 1 := ⟨k - 1, Qa⟩
  obtain ⟨v, q, e, v0, v1, hq⟩ := fn_ hL hp 1 2 Qa Qa Qa
  simp only [ka_.l0]
  rw [e]
  simp only [Option.bind_some]
  by_cases h : (i : Int) < v
  rotate_left
  ·rw [if_neg h]
   obtain ⟨ys, q2, e2, hq2, hy, hE⟩ := gi1_ hL num ps bs Qa Qa 4 0 k q [] Qa Qa hq Qj ⟨Qj, List.Pairwise.nil⟩
   exact ⟨_, _, _, _, e2, hq2, hy, Qa, by rw [h2, ← h1]; exact hE, h3⟩
  obtain ⟨qs, q2, e2, h4, hq2⟩ := lk1_ hL hq num (i : Int) k Qa
  obtain ⟨pgs, er, e3, h5⟩ := make_f num (i : Int) qs h4 k Qa
  rw [if_pos h, e2]
  simp only [Option.bind_some]
  rw [e3]
  simp only [Option.bind_some]
  rw [if_pos (by simp; omega), if_pos (by simp; omega), rm_ i Qa]
  refine ih (i + 1) k q2 _ _ Qa Qa hq2 (by rw [List.length_append, List.length_singleton, h1]) (by rw [List.length_append, List.length_singleton, h2]) fun y hy => ?_
  rcases List.mem_append.1 hy with h | h
  ·exact h3 y h
  ·rw [List.mem_singleton.1 h]; exact h5
theorem sit_f {L : List Int} (hL : L.length ≤ 600) {p : Int} (hp : TA p) (k : Nat) (hk : 70 ≤ k) : ∃ num ps bs ys q, ka_.f k L p 0 = some (num, ps, bs, ys, q) ∧ TA q ∧ 0 ≤ num ∧ num ≤ 1 ∧ ys.length ≤ 4 ∧ bs.length ≤ 2 ∧ ExOk bs.length 4 ys ∧ ∀ y ∈ bs, y.f0.length ≤ 12 := by
 obtain ⟨v, q, e, v0, v1, hq⟩ := jj_ hL hp 2 Qa Qa
 obtain ⟨ps, bs, ys, q2, e2, hq2, hy, hb2, hE, hb⟩ := sit_l0 hL v 2 0 k q [] [] Qa Qa hq rfl rfl Qj
 unfold ka_.f
 rw [e]
 simp only [Option.bind_some]
 exact ⟨_, _, _, _, _, e2, hq2, v0, Qa, hy, hb2, hE, hb⟩
def sz_ (l : List S38) : Prop := (∀ y ∈ l, okL y.f0 y.f1 y.f2 y.f3) ∧ l.Pairwise fun a b => a.f1 ≠ b.f1 ∨ a.f2 ≠ b.f2
theorem rdT58 (es : List S58) (i : Nat) (h : i < es.length) : me_ es (i : Int) = es[i] := by
 unfold me_
 rw [Int.toNat_natCast, List.getD_eq_getElem?_getD, List.getElem?_eq_getElem h]; rfl
theorem rdT38 (es : List S38) (i : Nat) (h : i < es.length) : qe_ es (i : Int) = es[i] := by
 unfold qe_
 rw [Int.toNat_natCast, List.getD_eq_getElem?_getD, List.getElem?_eq_getElem h]; rfl
theorem ae1_ {bs : List S60} (hb : ∀ y ∈ bs, y.f0.length ≤ 12) (i : Int) : (cm_ bs i).f0.length ≤ 12 := by
 unfold cm_
 rw [List.getD_eq_getElem?_getD]
 cases h : bs[i.toNat]? with
 | none => decide
 | some y => exact hb y (List.mem_of_getElem? h)
theorem ig1_ (num : Int) (hn0 : 0 ≤ num) (hn1 : num ≤ 1) (ps : List S65) (bs : List S60) (hb : ∀ y ∈ bs, y.f0.length ≤ 12) (hb2 : bs.length ≤ 2) (es : List S58) (he : es.length ≤ 4) (hE : ExOk bs.length 4 es) :
  ∀ (d i k : Nat) (xs : List S38), i + d = es.length → 20 * d + 1 < k → xs.length ≤ 12 * i → sz_ xs → (∀ y ∈ xs, ∀ h : i < es.length, y.f1 < es[i].f0) → ∃ ys, nb_.l0 k xs (i : Int) num ps bs es = some ys ∧ sz_ ys ∧ ys.length ≤ 48 := by
 intro d
 induction d with
 | zero =>
  intro i k xs hi hk hx hl hc
  obtain ⟨k, rfl⟩ : ∃ m, k = m + 1 := ⟨k - 1, Qa⟩
  simp only [nb_.l0]
  rw [if_neg Qa]
  exact ⟨_, rfl, hl, Qa⟩
 | succ d ih =>
  intro i k xs hi hk hx hl hc
  obtain ⟨k, rfl⟩ : ∃ m, k = m + 1 := ⟨k - 1, Qa⟩
  have hlt : i < es.length := by omega
  obtain ⟨c0, c1, c2, c3⟩ := hE.1 es[i] (List.getElem_mem hlt)
  have h12 := ae1_ hb es[i].f2
  have I : ∀ (m j k : Nat) (xs : List S38), j + m = (cm_ bs es[i].f2).f0.length → 20 * d + m + 3 < k → xs.length ≤ 12 * i + j → sz_ xs → (∀ y ∈ xs, y.f1 < es[i].f0 ∨ (y.f1 = es[i].f0 ∧ y.f2 < (j : Int))) → ∃ ys, nb_.l1 k xs (i : Int) (j : Int) num ps bs es es[i].f0 es[i].f1 es[i].f2 = some ys ∧ sz_ ys ∧ ys.length ≤ 48 := by
   intro m
   induction m with
   | zero =>
    intro j k xs hj hk hx hl hc
    obtain ⟨k, rfl⟩ : ∃ m, k = m + 1 := ⟨k - 1, Qa⟩
    simp only [nb_.l1]
    rw [if_pos c2, if_pos c3, if_neg Qa, rm_ i Qa]
    refine ih (i + 1) k xs Qa Qa Qa hl fun y hy h => ?_
    have hp := List.pairwise_iff_getElem.1 hE.2 i (i + 1) hlt h Qa
    rcases hc y hy with h1 | h1 <;> omega
   | succ m ih2 =>
    intro j k xs hj hk hx hl hc
    obtain ⟨k, rfl⟩ : ∃ m, k = m + 1 := ⟨k - 1, Qa⟩
    simp only [nb_.l1]
    rw [if_pos c2, if_pos c3, if_pos Qa, if_pos Qa, rm_ j Qa]
    refine ih2 (j + 1) k _ Qa Qa Yv ⟨fun y hy => ?_, ?_⟩ fun y hy => ?_
    ·rcases List.mem_append.1 hy with h | h
     ·exact hl.1 y h
     ·rw [List.mem_singleton.1 h]
      exact ⟨⟨hn0, by show num ≤ 31; omega⟩, ⟨c0, by show es[i].f0 ≤ 9999; omega⟩, ⟨by show 0 ≤ (j : Int); omega, by show (j : Int) ≤ 31; omega⟩, ⟨c2, by show es[i].f2 ≤ 31; omega⟩⟩
    ·refine List.pairwise_append.2 ⟨hl.2, List.pairwise_singleton _ _, fun a ha b hb => ?_⟩
     rw [List.mem_singleton.1 hb]
     show a.f1 ≠ es[i].f0 ∨ a.f2 ≠ (j : Int)
     rcases hc a ha with h1 | h1 <;> omega
    rcases List.mem_append.1 hy with h | h
    ·rcases hc y h with h1 | h1 <;> omega
    rw [List.mem_singleton.1 h]
    exact .inr ⟨rfl, by show (j : Int) < ((j + 1 : Nat) : Int); omega⟩
  simp only [nb_.l0]
  rw [if_pos Qa, if_pos Qa, rdT58 es i hlt]
  exact I _ 0 k xs (Nat.zero_add _) Qa Qa hl fun y hy => .inl (hc y hy hlt)
theorem kk1_ (num : Int) (hn0 : 0 ≤ num) (hn1 : num ≤ 1) (ps : List S65) (bs : List S60) (hb : ∀ y ∈ bs, y.f0.length ≤ 12) (hb2 : bs.length ≤ 2) (es : List S58) (he : es.length ≤ 4) (hE : ExOk bs.length 4 es) (k : Nat) (hk : 90 ≤ k) : ∃ ys, nb_.f k num ps bs es = some ys ∧ sz_ ys ∧ ys.length ≤ 48 := by
 unfold nb_.f
 exact ig1_ num hn0 hn1 ps bs hb hb2 es he hE es.length 0 k [] Qa Qa Qj ⟨Qj, List.Pairwise.nil⟩ Qj
theorem wi1_ (k : Nat) (hk : 1 ≤ k) : uc_.f k = some true := by
 have h : okL 1 2 3 0 := by decide
 have hl := sj_ h
 have hc := il_ (xh_ h)
 have hs := xm_ _ hl
 have hz := gm_ _ hl
 have hw := lr_ _ hl (qt_ h)
 have e1 : (yh_ (encC (symL 1 2 3 0))).data.toList.take 7 = ix_ := by
  rw [oj_]; exact List.take_left' rfl
 have e2 : (yh_ (encC (symL 1 2 3 0))).data.toList.drop 67 = gp_ := by
  have hf := sn_ (encC (symL 1 2 3 0))
  rw [oj_, ← List.append_assoc]
  exact List.drop_left' (by rw [List.length_append, hf, hl]; rfl)
 have k1 : K1 (yh_ (encC (symL 1 2 3 0))) = 7 := by unfold K1; rw [e1]; decide
 have k0 : K0 (yh_ (encC (symL 1 2 3 0))) = 7 := by unfold K0; rw [e2]; decide
 have hso : symS (yh_ (encC (symL 1 2 3 0))) 2 = (encC (symL 1 2 3 0)).getD 2 0 := by rw [← mr_ _ 2 Qa, hw]
 obtain ⟨a1, a2⟩ := (uy_ hc hl hs (o := 2) (k := 3) Qa Qa hso 0).2 Qa
 have hB : Bad (encC (symL 1 2 3 0)) (yh_ (encC (symL 1 2 3 0))) 0 := by
  unfold Bad
  rw [hw, tt_, ly_ hc 12 Qa]; rfl
 have hB2 := (zc1_ hc hl hs (o := 2) (k := 3) Qa Qa hso 0 0 hB).2 Qa
 have hd : Dam (encC (symL 1 2 3 0)) (chS (yh_ (encC (symL 1 2 3 0))) (7 + 2 * 5 + 3) 0) := ⟨nn_ hs _ _, by rw [wj1_ _ _ _ Qa]; omega, by rw [vj1_ _ _ _ Qa]; omega, _, hB2, Qa⟩
 have hr := dz_ h hd (.inl rfl)
 rw [a1, hw, tt_] at hr
 unfold uc_.f
 rw [gz_]
 unfold lf1_
 rw [if_pos h]
 simp only [Option.bind_some]
 rw [show (20 : Int) = ((7 + 2 * 5 + 3 : Nat) : Int) from rfl, fq_ _ Qa _ Qa 0 k hk]
 simp only [Option.bind_some]
 rw [hr]
 simp only [Option.bind_some]
 rw [if_pos trivial, if_pos trivial, if_pos Qc]
 rfl
def fi_ (y : S38) : List Int := encC (symL y.f0 y.f1 y.f2 y.f3)
theorem rg1_ (xs : List S38) (i j : Nat) (hi : i ≤ xs.length) (h : j < i) : kf_ ((xs.take i).map fi_) (j : Int) = fi_ (xs[j]'Qa) := by
 unfold kf_
 rw [Int.toNat_natCast, List.getD_eq_getElem?_getD, List.getElem?_map, List.getElem?_take, if_pos h, List.getElem?_eq_getElem Qa]; rfl
theorem ah1_ (xs : List S38) (i : Nat) (hi : i < xs.length) : (xs.take i).map fi_ ++ [fi_ xs[i]] = (xs.take (i + 1)).map fi_ := by
 rw [List.take_add_one, List.map_append, List.getElem?_eq_getElem hi]; rfl
theorem lab_l0 {L : List Int} (hL : L.length ≤ 600) {xs : List S38} (hx : sz_ xs) (hlen : xs.length ≤ 48) :
  ∀ (d i k : Nat) (p : Int), i + d = xs.length → 1100 + 100 * d < k → TA p → qa_.l0 k xs ((xs.take i).map fi_) (i : Int) L p = some true := by
 intro d
 induction d with
 | zero =>
  intro i k p hi hk hp
  obtain ⟨k, rfl⟩ : ∃ m, k = m + 1 := ⟨k - 1, Qa⟩
  simp only [qa_.l0]
  rw [if_neg Qa, wi1_ k Qa]
  rfl
 | succ d ih =>
  intro i k p hi hk hp
  obtain ⟨k, rfl⟩ : ∃ m, k = m + 2 := ⟨k - 2, Qa⟩
  have hlt : i < xs.length := by omega
  have ok := hx.1 xs[i] (List.getElem_mem hlt)
  have hl := sj_ ok
  have hz := gm_ _ hl
  have hwl : ((xs.take i).map fi_).length = i := by rw [List.length_map, List.length_take]; omega
  have I : ∀ (m j k : Nat), j + m = i → 1100 + 100 * d + m + 5 < k → qa_.l1 k xs ((xs.take i).map fi_) (i : Int) (yh_ (fi_ xs[i])) (fi_ xs[i]) (j : Int) L p = some true := by
   intro m
   induction m with
   | zero =>
    intro j k hj hk
    obtain ⟨k, rfl⟩ : ∃ m, k = m + 1 := ⟨k - 1, Qa⟩
    obtain ⟨t, q, n, e1, hq, e2⟩ := hf1_ hL hp ok k Qa
    simp only [qa_.l1]
    rw [if_neg Qa, if_pos Qa]
    rw [show na_.f k L p (yh_ (fi_ xs[i])) = some (t, q) from e1]
    simp only [Option.bind_some]
    rw [e2]
    simp only [Option.bind_some]
    rw [if_pos trivial, if_pos Qa, if_pos Qa, rdT38 xs i hlt, if_neg Qj, rm_ i Qa]
    have := ih (i + 1) k q Qa Qa hq
    rw [← ah1_ xs i hlt] at this
    exact this
   | succ m ih2 =>
    intro j k hj hk
    obtain ⟨k, rfl⟩ : ∃ m, k = m + 1 := ⟨k - 1, Qa⟩
    have hp := List.pairwise_iff_getElem.1 hx.2 j i Qa hlt Qa
    have okj := hx.1 (xs[j]'Qa) (List.getElem_mem _)
    obtain ⟨n, e1, h7⟩ := vx_ ok okj (by rcases hp with h | h; exact .inl fun q => h q.symm; exact .inr fun q => h q.symm) k Qa
    simp only [qa_.l1]
    rw [if_pos Qa, if_pos Qa, rg1_ xs i j Qa Qa]
    rw [show mc_.f k (fi_ xs[i]) (fi_ (xs[j]'Qa)) = some n from e1]
    simp only [Option.bind_some]
    rw [if_neg Qa, rm_ j Qa]
    exact ih2 (j + 1) k Qa Qa
  have hw : mi_.f (yh_ (fi_ xs[i])) = some (fi_ xs[i], 0) := by
   unfold fi_
   rw [iz_]
   unfold ih1_
   rw [if_pos (xm_ _ hl), lr_ _ hl (qt_ ok)]
  have hd : vj_.f xs[i].f0 xs[i].f1 xs[i].f2 xs[i].f3 = some (yh_ (fi_ xs[i]), 0) := by
   rw [gz_]
   unfold lf1_
   rw [if_pos ok]; rfl
  have hcd : qr_.f (fi_ xs[i]) = some true := by
   unfold qr_.f fi_
   rw [il_ (xh_ ok)]
  have hz' : (yh_ (fi_ xs[i])).size = 74 := hz
  simp only [qa_.l0]
  rw [if_pos Qa, if_pos Qa, rdT38 xs i hlt, hd]
  simp only [Option.bind_some]
  rw [hw]
  simp only [Option.bind_some]
  rw [if_pos trivial, if_pos trivial, if_pos Qa, hcd]
  simp only [Option.bind_some, qa_.j1]
  rw [if_neg Qc]
  exact I i 0 k Qa Qa
theorem ku_ : qa_.Pure := by
 intro l _ _ _
 obtain ⟨K, hK⟩ : ∃ K, K = 7000 := ⟨_, rfl⟩
 refine ⟨K, ?_⟩
 obtain ⟨L, e0, hL, hp⟩ := new_f l
 obtain ⟨num, ps, bs, es, q, e1, hq, n0, n1, hes, hb2, hE, hb⟩ := sit_f hL hp K Qa
 obtain ⟨ys, e2, hy, hyl⟩ := kk1_ num n0 n1 ps bs hb hb2 es hes hE K Qa
 unfold qa_.f
 rw [e0]
 simp only [Option.bind_some]
 rw [e1]
 simp only [Option.bind_some]
 rw [e2]
 simp only [Option.bind_some]
 have := lab_l0 hL hy hyl ys.length 0 K q Qa Qa hq
 simpa using this
end Go.Proofs.YtpkhgapifnjbeaaGreatDoor.Pure
end
section
namespace Go.Proofs.YtpkhgapifnjbeaaGreatDoor.topLabels
open Go.ChangeShapes Go.WideShapes Go.ChangeAt RowKit
open Go.ChangeMaps (open_string shut_string)
theorem own : ownKnob Tryz.prog.godebug = none := by kernel_rfl
theorem laidOut : laidOutB Tryz.prog = true := by kernel_rfl
def IsRow (k : IntKind) (w : World) (a : Option Addr) (len cap : Nat) (zs : List Int) : Prop :=
 (a = none ∧ len = 0 ∧ cap = 0 ∧ zs = []) ∨
 ∃ x, a = some x ∧ len ≤ cap ∧ cap ≤ maxLen ∧ zs.length = cap ∧ (∀ i, i < zs.length → w.cell? (x.add i) = some (.int k (zs.getD i 0))) ∧ ∀ n ∈ zs, (Lit.int k n).wf = true
set_option maxRecDepth 100000 in
theorem lifted (os : Os) (started : os.Started) (H : Type) (enc : TypeId × Value → H) :
  ReturnsInHanded {} Tryz.checked os 3 .any (fun w args => (Rows.topLabelsSpec.pre enc Tryz.prog Tryz.f3 [] false w args ∧ laidMetH Tryz.prog Rows.topLabelsRow.laid w) ∧ sizedMet enc Tryz.prog Tryz.f3 (OpenSpec.ofChange Rows.topLabelsSpec) false w args) (Rows.topLabelsSpec.post enc Tryz.prog Tryz.f3 false true false false) := by
 refine returnsInHanded_of_change_and (C := Tryz.checked) (X := (fun w _ => laidMetH Tryz.prog Rows.topLabelsRow.laid w)) (fun _ _ _ hh h => h.of_heap hh) own started Qb Tryz.func3
  (ChangeSpec.witness_shaped (enc := enc) (C := Tryz.checked) (os := os) (X := (fun w _ => laidMetH Tryz.prog Rows.topLabelsRow.laid w)) false (World.laidAll Tryz.prog os Rows.topLabelsRow.laid) #[.slice none 0 0] 8 (World.laidAll_os _ _ _)
   (World.shaped_of_ZipB Qb Qb) Qb Qb Qb
   (by rw [MakeChecks.laidMetH_plain _ _ _ Qb]; exact laidMet_laidAll _ Qb Qb)) ?_
 intro W base args ds gs before hval0 hW hcnd hsz0 hL _
 clear hL
 have hsz : (DataW.weightsEach Tryz.prog (Tryz.f3.params.toList ++ Rows.topLabelsSpec.plain.varTypes Tryz.prog) (ds ++ gs)).all (· ≤ reachBytes) = true := hsz0
 have hval : ∀ (j : Nat) t v, Tryz.f3.params[j]? = some t → args[j]? = some v → Value.okWide Tryz.prog W .any base t v := hval0
 have hW' := hW
 obtain ⟨p, q, hA0, hV, rfl, hfz, hnd⟩ := hW
 have hA : DataW.TrodAll enc Tryz.prog W 0 (fun _ => true) true Tryz.f3.params.toList args.toList ds p := hA0
 rw [Tryz.params3] at hA hval hsz
 obtain ⟨v0, vs0, d0, ds0, p0, q0, hargs, rfl, rfl, h0, r0⟩ := trodAll_cons hA
 obtain ⟨rfl, rfl, rfl⟩ := trodAll_nil r0
 obtain rfl : args = #[v0] := by cases args; simp_all
 obtain ⟨rfl, rfl⟩ := trodVars_none hV
 obtain ⟨a0, len0, cap0, rfl⟩ := okWide_slice Tryz.underlying22 (hval 0 22 v0 rfl rfl)
 have k0 := h0
 have lt0 : ∀ x ∈ p0, x.block < W.heap.size := by obtain ⟨m, hm⟩ := k0; exact DataW.trod_lt m _ _ _ hm
 obtain ⟨z0, w0⟩ : ∃ zs, IsRow .i64 W a0 len0 cap0 zs := by
  obtain ⟨fuel, hf⟩ := h0
  rcases open_ints Tryz.underlying22 Tryz.underlying3 Qb hf with ⟨hcs, _⟩ | ⟨x, l, c, zs, hcs, _, hl, hm, hz, _, hcell, hwz⟩
  ·simp [Value.cells] at hcs
   obtain ⟨rfl, rfl, rfl⟩ := hcs
   exact ⟨[], .inl ⟨rfl, rfl, rfl, rfl⟩⟩
  simp [Value.cells] at hcs
  obtain ⟨rfl, rfl, rfl⟩ := hcs
  exact ⟨zs, .inr ⟨_, rfl, hl, hm, by simpa using hz, hcell, hwz⟩⟩
 have y0 : len0 * 8 ≤ 140737488351232 := Go.Proofs.Zw.PrintWords.cb1_ hsz (j := 0) (t := 22) rfl rfl Tryz.underlying22 Tryz.underlying3 Qb Qb h0
 clear hA0 hval0 hsz0 hsz
 refine (TL.qa_.walk Pure.ku_ a0 len0 cap0 z0 W w0 y0).mono fun e W' ⟨he, bel⟩ => ?_
 subst he
 exact ⟨_, rfl, _, _, _, [], _, [], hW', trodAll_mk1 (shut_bool Tryz.underlying4 _), (trodAll_cons_mk (Below.trod laidOut Qb (of_decide_eq_true Qb) k0 bel lt0) trodAll_mk0), rfl, bel.frame _, fun h => by cases h⟩
theorem over : Rows.topLabelsRow.holds Tryz.pinned (OpenSpec.ofChange Rows.topLabelsSpec) :=
 OpenClaim.holds_of_wide 3 Tryz.f3 rfl rfl rfl rfl rfl rfl rfl ⟨rfl, rfl, rfl, rfl, rfl⟩ rfl rfl rfl rfl rfl Qb Tryz.func3 Qb
  (of_decide_eq_true Qb) (by unfold Func.isWrapper; first | (rw [if_pos (by decide +kernel)]; kernel_rfl) | (rw [if_neg (by decide +kernel)]; exact ⟨rfl, rfl⟩))
  (fun os started H enc _ => lifted os started H enc)
theorem card : Rows.TopLabelsCardSaid :=
 Claim7.holds_tied_plain_at .later [] [.data, .pinned] true (true, "7e6822926169cfe1c3a292a53cf000915babf8db10164626460e51774619d438") false over (fun _ h => by cases h) Qb (fun _ h => by cases h) topLabels_row_tie rfl ⟨rfl, rfl⟩ Qb rfl
  (fun f fn hf hfn => by
   obtain rfl : f = 3 := Option.some.inj ((show Tryz.prog.funcNamed "awardingbody/awardingbodytop.TopLabels" = some 3 by kernel_rfl).symm.trans hf) |>.symm
   obtain rfl : fn = Tryz.f3 := (Option.some.inj (Tryz.func3.symm.trans hfn)).symm
   exact ⟨Qb, fun j t ht => by
    rw [Tryz.params3] at ht
    have hm : t ∈ [22] := by simpa using Array.mem_of_getElem? ht
    have hall : ([22].all fun u => !Tryz.prog.wantsStandIn u) = true := by kernel_rfl
    exact (show Tryz.prog.wantsStandIn t = false by simpa using List.all_eq_true.1 hall t hm)⟩)
  Qb
end Go.Proofs.YtpkhgapifnjbeaaGreatDoor.topLabels
namespace Go.Proofs.YtpkhgapifnjbeaaGreatDoor
theorem topLabels_card_holds : Rows.TopLabelsCardSaid := topLabels.card
end Go.Proofs.YtpkhgapifnjbeaaGreatDoor
end
