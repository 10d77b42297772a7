/- Put together by pack2.py. -/
import Derived.Test.YtpkhgapifnjbeaaGreatDoorRows
import Derived.Lay
import Derived.LaidOnce
import Derived.SevenTiedAt
import Derived.Test.YtpkhgapifnjbeaaGreatDoorTie
import Derived.Test.YtpkhgapifnjbeaaGreatDoorCards
import Derived.WalkKit
import Derived.ProofKit
import Derived.OpenShut
import Derived.ShutString
import Derived.ChangeOld
import Derived.Below
import Derived.SizedLaws
import Derived.Test.YtpkhgapifnjbeaaGreatDoorXa0
set_option linter.unusedVariables false
set_option linter.unusedSimpArgs false
section
namespace Go.Proofs.YtpkhgapifnjbeaaGreatDoor.T
open RowKit G Rs Zw.PrintWords Zw.PrintLast Zw.PrintMore
attribute [local go_sem] id_ kd_ vd_ wd_ bd_ cd_ jd_ ld_
def na_.j0 : Nat → ByteArray → List Int → Int → Option (ByteArray × Int)
 | 0, _, _, _ => none
 | k + 1, x5, x1000, x1001 => (nd_.f x1000 x1001 12).bind fun bt241 => (if bt241.1 = true then ((kb_.f x1000 bt241.2 2).bind fun bt243 => (if 0 ≤ bt243.1 then (if bt243.1 ≤ (x5.size : Int) then ((some (([(⟨#[]⟩ : ByteArray), (⟨#[48]⟩ : ByteArray), (⟨#[50]⟩ : ByteArray)] : List ByteArray) : List ByteArray)).bind fun y245 => ((kb_.f x1000 bt243.2 3).bind fun bt248 => (if 0 ≤ bt248.1 then (if bt248.1 < (y245.length : Int) then (if (x5.extract (bt243.1 : Int).toNat x5.size).size + (rdOf ByteArray.empty y245 bt248.1).size ≤ 9223372036854775807 then (some ((x5.extract (bt243.1 : Int).toNat x5.size) ++ (rdOf ByteArray.empty y245 bt248.1), bt248.2)) else (none)) else (none)) else (none)))) else (none)) else (none))) else (some (x5, bt241.2)))
def na_.f (k : Nat) (s0_0 : List Int) (s0_1 : Int) (a1 : Int) : Option (ByteArray × Int) := (ce_.f s0_0 s0_1 0).bind fun bt229 => ((tb_.f k bt229.1 bt229.2.1 bt229.2.2.1 bt229.2.2.2.1).bind fun bt234 => ((bb_.f k s0_0 bt229.2.2.2.2 bt234.1 a1).bind fun bt236 => ((kb_.f s0_0 bt236.2 2).bind fun bt238 => (if bt238.1 = 1 then ((jb_.f k bt236.1).bind fun t240 => (na_.j0 k t240 s0_0 bt238.2)) else (na_.j0 k bt236.1 s0_0 bt238.2)))))
theorem na_.yc_ : ∀ k, (∀ y0 y1 y2, LeO (na_.j0 k y0 y1 y2) (na_.j0 (k + 1) y0 y1 y2))
 | 0 => fun _ _ _ r h => by simp [na_.j0] at h
 | k + 1 => by
  have ih0 := na_.yc_ k
  intro y0 y1 y2
  unfold na_.j0
  repeat' first
  | (with_reducible exact ih0 _ _ _)
  | (with_reducible exact bb_.mono _ _ _ _ _)
  | (with_reducible exact tb_.mono _ _ _ _ _)
  | (with_reducible exact jb_.mono _ _)
  | (with_reducible first | exact LeO.refl _ | exact LeO.none _ | refine LeO.ite ?_ ?_ | refine LeO.bind ?_ (fun _ => ?_))
  | exact ih0 _ _ _
  | exact bb_.mono _ _ _ _ _
  | exact tb_.mono _ _ _ _ _
  | exact jb_.mono _ _
  | exact LeO.none _
  | refine LeO.ite ?_ ?_
  | refine LeO.bind ?_ (fun _ => ?_)
theorem na_.mono : ∀ a0 a1 a2 k, LeO (na_.f k a0 a1 a2) (na_.f (k + 1) a0 a1 a2) := by
 intro a0 a1 a2 k
 have ih0 := na_.yc_ k
 unfold na_.f
 repeat' first
   | (with_reducible exact ih0 _ _ _)
   | (with_reducible exact bb_.mono _ _ _ _ _)
   | (with_reducible exact tb_.mono _ _ _ _ _)
   | (with_reducible exact jb_.mono _ _)
   | (with_reducible first | exact LeO.refl _ | exact LeO.none _ | refine LeO.ite ?_ ?_ | refine LeO.bind ?_ (fun _ => ?_))
   | exact ih0 _ _ _
   | exact bb_.mono _ _ _ _ _
   | exact tb_.mono _ _ _ _ _
   | exact jb_.mono _ _
   | exact LeO.none _
   | refine LeO.ite ?_ ?_
   | refine LeO.bind ?_ (fun _ => ?_)
def na_.T6 : Bool × List (List Nat × List Nat) := (true, [([], []), ([], []), ([1], [1]), ([0, 2], [0, 2]), ([], []), ([], []), ([5, 2], [5]), ([4, 6], [4, 6]), ([7], [7]), ([3, 8], [3, 8]), ([9, 6, 0, 1, 2, 3, 4, 5, 6, 7, 8, 9], [0, 9])])
def na_.B6 : List Nat := [0, 0, 2, 7, 0, 0, 38, 118, 246, 511, 1023]
theorem na_.tab6 : rtab .any (opsOf Tryz.f23 6) = na_.T6 := by kernel_rfl
theorem na_.bits6 : vg_ na_.T6.2 na_.B6 = true := by kernel_rfl
set_option maxHeartbeats 8000000 in
set_option maxRecDepth 100000 in
theorem na_.calls (k : Nat) (g : Nat) (s0_0 : List Int) (s0_1 : Int) (a1 : Int) (r1 : ByteArray) (r2 : Int) (w0 w : World) (hI : ya_ w0 w g s0_0 s0_1) (hB : Below w0.heap.size w0 w) (h : na_.f k s0_0 s0_1 a1 = some (r1, r2)) :
  Calls Tryz.prog 23 #[.pointer (some ⟨g, 0, none⟩), .int .i64 a1] w fun e w' => e = .returned (.string r1) ∧ ya_ w0 w' g s0_0 r2 ∧ Below w0.heap.size w0 w' ∧ vb_ w w' g none := by
 have HI0 := ba_.mk hI
 have HK := ba_.mk (vb_.refl w g none)
 have HL := ba_.mk hB.size
 clear hI
 have HW0 := ba_.mk hB.size
 have HB := ba_.mk hB
 clear hB
 have H : ((ce_.f s0_0 s0_1 0).bind fun bt229 => ((tb_.f k bt229.1 bt229.2.1 bt229.2.2.1 bt229.2.2.2.1).bind fun bt234 => ((bb_.f k s0_0 bt229.2.2.2.2 bt234.1 a1).bind fun bt236 => ((kb_.f s0_0 bt236.2 2).bind fun bt238 => (if bt238.1 = 1 then ((jb_.f k bt236.1).bind fun t240 => (na_.j0 k t240 s0_0 bt238.2)) else (na_.j0 k bt236.1 s0_0 bt238.2)))))) = some (r1, r2) := h
 clear h
 obtain ⟨⟨t229, t230, t231, t232, t233⟩, A3, H⟩ := Qk H
 try dsimp only at H
 obtain ⟨⟨t234, t235⟩, A4, H⟩ := Qk H
 try dsimp only at H
 obtain ⟨⟨t236, t237⟩, A5, H⟩ := Qk H
 try dsimp only at H
 obtain ⟨⟨t238, t239⟩, A6, H⟩ := Qk H
 try dsimp only at H
 have HC7 := ba_.mk H
 clear H
 go_enter Tryz.func23, Tryz.ntmps23
 go_upto_if 19 with (first | ((with_reducible refine ia_ (f := 18) rfl ?_); refine gc_ (some 9) rfl rfl Tryz.func18 Qb rfl #[.pointer (some ⟨g, 0, none⟩), .int .i64 0] rfl Qj ?_; (with_reducible refine (ce_.calls g s0_0 s0_1 0 t229 t230 t231 t232 t233 w0 _ ?side1 ?side2 A3.out).mono ?_); (case side1 => exact Q7); (case side2 => exact Q8); rintro e w8 ⟨rfl, hi, hb, hk⟩; refine ⟨_, rfl, ?_⟩; have n0_ := ba_.mk (vb_.trans Qs hk (.inl rfl)); have n1_ := ba_.mk (hb); have n2_ := ba_.mk (hi); clear HK; clear HB; clear HI0; have HK := n0_; have HB := n1_; have HI0 := n2_; clear n0_ n1_ n2_; (try clear hb); (try clear hb2); (try clear hk); (try clear hi)) | ((with_reducible refine ia_ (f := 19) rfl ?_); refine gc_ (some 10) rfl rfl Tryz.func19 Qb rfl #[.agg #[.int .i64 t229, .int .i64 t230, .int .i64 t231, .int .i64 t232]] rfl Qj ?_; (with_reducible refine (tb_.calls k t229 t230 t231 t232 t234 t235 _ A4.out).mono ?_); rintro e w9 ⟨rfl, hb⟩; refine ⟨_, rfl, ?_⟩; have n0_ := ba_.mk (ya_.below Qx hb); have n1_ := ba_.mk (vb_.trans Qs (vb_.qi_ hb g none) (.inl rfl)); have n2_ := ba_.mk (wa_ Qy hb); clear HI0; clear HK; clear HB; have HI0 := n0_; have HK := n1_; have HB := n2_; clear n0_ n1_ n2_; (try clear hb); (try clear hb2); (try clear hk); (try clear hi)) | ((with_reducible refine ia_ (f := 55) rfl ?_); refine gc_ (some 16) rfl rfl Tryz.func55 Qb rfl #[.pointer (some ⟨g, 0, none⟩), .string t234, .int .i64 a1] rfl Qj ?_; (with_reducible refine (bb_.calls k g s0_0 t233 t234 a1 t236 t237 w0 _ ?side1 ?side2 A5.out).mono ?_); (case side1 => exact Q7); (case side2 => exact Q8); rintro e w10 ⟨rfl, hi, hb, hk⟩; refine ⟨_, rfl, ?_⟩; have n0_ := ba_.mk (vb_.trans Qs hk (.inl rfl)); have n1_ := ba_.mk (hb); have n2_ := ba_.mk (hi); clear HK; clear HB; clear HI0; have HK := n0_; have HB := n1_; have HI0 := n2_; clear n0_ n1_ n2_; (try clear hb); (try clear hb2); (try clear hk); (try clear hi)) | ((with_reducible refine ia_ (f := 30) rfl ?_); refine gc_ (some 18) rfl rfl Tryz.func30 Qb rfl #[.pointer (some ⟨g, 0, none⟩), .int .i64 2] rfl Qj ?_; (with_reducible refine (kb_.calls g s0_0 t237 2 t238 t239 w0 _ ?side1 ?side2 A6.out).mono ?_); (case side1 => exact Q7); (case side2 => exact Q8); rintro e w11 ⟨rfl, hi, hb, hk⟩; refine ⟨_, rfl, ?_⟩; have n0_ := ba_.mk (vb_.trans Qs hk (.inl rfl)); have n1_ := ba_.mk (hb); have n2_ := ba_.mk (hi); clear HK; clear HB; clear HI0; have HK := n0_; have HB := n1_; have HI0 := n2_; clear n0_ n1_ n2_; (try clear hb); (try clear hb2); (try clear hk); (try clear hi)))
 (try simp only [Act.put, List.setIfInBounds_toArray, List.set_cons_zero, List.set_cons_succ])
 go_cut [5] (fun v5 wc => ∃ (kq : Nat) (x5_6 : ByteArray), v5 = .string x5_6 ∧ ba_ (na_.j0 kq x5_6 s0_0 t239 = some (r1, r2)) ∧ ba_ (kq ≤ k) ∧ ba_ (ya_ w0 wc g s0_0 t239) ∧ ba_ (vb_ w wc g none) ∧ ba_ (Below w0.heap.size w0 wc))
 case first =>
  have H := HC7.out
  clear HC7
  by_cases c12 : t238 = 1
  rotate_left
  ·rw [if_neg c12] at H
   have c12b0 : (t238 == 1) = false := beq_eq_false_iff_ne.mpr c12
   have c12b1 : (t238 != 1) = true := bne_iff_ne.mpr c12
   (first | rw [c12b0] | (simp only [yb_, ac_]; rw [c12b0]) | skip)
   have H' := ba_.mk H
   clear H
   go_wp2
   go_meet
   case rel => exact ⟨_, (t236), Qi, H', ⟨Xf⟩, ⟨Qx⟩, ⟨Qs⟩, ⟨Qy⟩⟩
  rw [if_pos c12] at H
  have c12b0 : (t238 == 1) = true := beq_iff_eq.mpr c12
  have c12b1 : (t238 != 1) = false := bne_eq_false_iff_eq.mpr c12
  clear c12
  (first | rw [c12b0] | (simp only [yb_, ac_]; rw [c12b0]) | skip)
  obtain ⟨t240, A13, H⟩ := Qk H
  try dsimp only at H
  have H' := ba_.mk H
  clear H
  go_wp2_with (first | ((with_reducible refine ia_ (f := 21) rfl ?_); refine gc_ (some 21) rfl rfl Tryz.func21 Qb rfl #[.string t236] rfl Qj ?_; (with_reducible refine (jb_.calls k t236 t240 _ A13.out).mono ?_); rintro e w14 ⟨rfl, hb⟩; refine ⟨_, rfl, ?_⟩; have n0_ := ba_.mk (ya_.below Qx hb); have n1_ := ba_.mk (vb_.trans Qs (vb_.qi_ hb g none) (.inl rfl)); have n2_ := ba_.mk (wa_ Qy hb); clear HI0; clear HK; clear HB; have HI0 := n0_; have HK := n1_; have HB := n2_; clear n0_ n1_ n2_; (try clear hb); (try clear hb2); (try clear hk); (try clear hi)))
  go_meet
  case rel => exact ⟨_, (t240), Qi, H', ⟨Xf⟩, ⟨Qx⟩, ⟨Qs⟩, ⟨Qy⟩⟩
 case rest =>
  clear HC7
  try clear c1
  try clear c2
  try clear p2
  try clear c3
  try clear c5
  try clear c12
  try clear c12b0
  try clear c12b1
  obtain ⟨kq, x5_6, rfl, HA, HJ6, HI0, HK, HB⟩ := hcut
  cases kq with
  | zero => exact absurd HA.out (by simp [na_.j0])
  | succ kj6 =>
   have H := HA.out
   clear HA
   simp only [na_.j0] at H
   obtain ⟨⟨t241, t242⟩, A15, H⟩ := Qk H
   try dsimp only at H
   by_cases c16 : t241 = true
   rotate_left
   ·replace c16 := Bool.eq_false_iff.mpr c16
    subst c16
    have H1 : (some (x5_6, t242)) = some (r1, r2) := by rw [if_neg (show ¬ (false = true) by decide)] at H; exact H
    clear H
    have H := H1
    clear H1
    simp only [Option.some.injEq, Prod.mk.injEq] at H
    obtain ⟨rfl, rfl⟩ := H
    go_wp2_with (first | ((with_reducible refine ia_ (f := 34) rfl ?_); refine gc_ (some 23) rfl rfl Tryz.func34 Qb rfl #[.pointer (some ⟨g, 0, none⟩), .int .i64 12] rfl Qj ?_; (with_reducible refine (nd_.calls g s0_0 t239 12 false t242 w0 _ ?side1 ?side2 A15.out).mono ?_); (case side1 => exact Q7); (case side2 => exact Q8); rintro e w33 ⟨rfl, hi, hb, hk⟩; refine ⟨_, rfl, ?_⟩; have n0_ := ba_.mk (vb_.trans Qs hk (.inl rfl)); have n1_ := ba_.mk (hb); have n2_ := ba_.mk (hi); clear HK; clear HB; clear HI0; have HK := n0_; have HB := n1_; have HI0 := n2_; clear n0_ n1_ n2_; (try clear hb); (try clear hb2); (try clear hk); (try clear hi)))
    go_ret
    exact ⟨Qq, Qx, Qy, Qs⟩
   subst c16
   have H1 : ((kb_.f s0_0 t242 2).bind fun bt243 => (if 0 ≤ bt243.1 then (if bt243.1 ≤ (x5_6.size : Int) then ((some (([(⟨#[]⟩ : ByteArray), (⟨#[48]⟩ : ByteArray), (⟨#[50]⟩ : ByteArray)] : List ByteArray) : List ByteArray)).bind fun y245 => ((kb_.f s0_0 bt243.2 3).bind fun bt248 => (if 0 ≤ bt248.1 then (if bt248.1 < (y245.length : Int) then (if (x5_6.extract (bt243.1 : Int).toNat x5_6.size).size + (rdOf ByteArray.empty y245 bt248.1).size ≤ 9223372036854775807 then (some ((x5_6.extract (bt243.1 : Int).toNat x5_6.size) ++ (rdOf ByteArray.empty y245 bt248.1), bt248.2)) else (none)) else (none)) else (none)))) else (none)) else (none))) = some (r1, r2) := by rw [if_pos rfl] at H; exact H
   clear H
   have H := H1
   clear H1
   obtain ⟨⟨t243, t244⟩, A17, H⟩ := Qk H
   try dsimp only at H
   obtain ⟨c18, H⟩ := Qn H
   have c18b0 := eq_true c18
   have c18b1 := decide_eq_true c18
   clear c18
   obtain ⟨c19, H⟩ := Qn H
   have c19b0 := eq_true c19
   have c19b1 := decide_eq_true c19
   clear c19
   obtain ⟨y245, hy245⟩ : ∃ y_ : List ByteArray, y_ = (([(⟨#[]⟩ : ByteArray), (⟨#[48]⟩ : ByteArray), (⟨#[50]⟩ : ByteArray)] : List ByteArray)) := ⟨_, rfl⟩
   replace H : ((kb_.f s0_0 t244 3).bind fun bt248 => (if 0 ≤ bt248.1 then (if bt248.1 < (y245.length : Int) then (if (x5_6.extract (t243 : Int).toNat x5_6.size).size + (rdOf ByteArray.empty y245 bt248.1).size ≤ 9223372036854775807 then (some ((x5_6.extract (t243 : Int).toNat x5_6.size) ++ (rdOf ByteArray.empty y245 bt248.1), bt248.2)) else (none)) else (none)) else (none))) = some (r1, r2) := by first | (rw [hy245]; with_reducible exact H) | (have H2_ := (Option.bind_some _ _).symm.trans H; rw [hy245]; with_reducible exact H2_) | (have H2_ := (Option.bind_some _ _).symm.trans H; with_reducible exact H2_) | with_reducible exact H | (rw [hy245]; exact H) | exact H
   have Ny245 := ba_.mk hy245
   clear hy245
   obtain ⟨⟨t248, t249⟩, A20, H⟩ := Qk H
   try dsimp only at H
   obtain ⟨c21, H⟩ := Qn H
   have c21b0 := decide_eq_true c21
   clear c21
   by_cases c22 : t248 < (y245.length : Int)
   rotate_left
   ·rw [if_neg c22] at H
    exact absurd H Qo
   rw [if_pos c22] at H
   have c22b0 := decide_eq_true c22
   clear c22
   by_cases c23 : (x5_6.extract (t243 : Int).toNat x5_6.size).size + (rdOf ByteArray.empty y245 t248).size ≤ 9223372036854775807
   rotate_left
   ·rw [if_neg c23] at H
    exact absurd H Qo
   rw [if_pos c23] at H
   have c23b0 := eq_true c23
   have c23b1 := decide_eq_true c23
   try have c23b2 : (9223372036854775807 < (x5_6.extract (t243 : Int).toNat x5_6.size).size + (rdOf ByteArray.empty y245 t248).size) = False := eq_false (Nat.not_lt.2 c23)
   simp only [Option.some.injEq, Prod.mk.injEq] at H
   obtain ⟨rfl, rfl⟩ := H
   try go_wp2_with (first | ((with_reducible refine ia_ (f := 34) rfl ?_); refine gc_ (some 23) rfl rfl Tryz.func34 Qb rfl #[.pointer (some ⟨g, 0, none⟩), .int .i64 12] rfl Qj ?_; (with_reducible refine (nd_.calls g s0_0 t239 12 true t242 w0 _ ?side1 ?side2 A15.out).mono ?_); (case side1 => exact Q7); (case side2 => exact Q8); rintro e w24 ⟨rfl, hi, hb, hk⟩; refine ⟨_, rfl, ?_⟩; have n0_ := ba_.mk (vb_.trans Qs hk (.inl rfl)); have n1_ := ba_.mk (hb); have n2_ := ba_.mk (hi); clear HK; clear HB; clear HI0; have HK := n0_; have HB := n1_; have HI0 := n2_; clear n0_ n1_ n2_; (try clear hb); (try clear hb2); (try clear hk); (try clear hi)))
   have pi250 : (0 ≤ (t248 : Int)) = True := eq_true (of_decide_eq_true Qg)
   have qi250 : (t248 < (y245.length : Int)) = True := eq_true (of_decide_eq_true Qg)
   have n0_ := ba_.mk (ya_.drew HI0.out)
   have n1_ := ba_.mk (vc_ HK.out)
   have n2_ := ba_.mk (ca_ HB.out)
   clear HI0
   clear HK
   clear HB
   have HI0 := n0_
   have HK := n1_
   have HB := n2_
   clear n0_ n1_ n2_
   refine kh_ (n := 11) (S := fun w' => True) (ds := []) Qaq Qb rfl rfl trivial (fun hHeld => ?_); refine lh_ na_.tab6 na_.bits6 (fun HT_ HW_ => ?_)
   generalize w24.drew = w25 at HI0 HK HB hHeld ⊢
   refine oc_ (i := 0) (N := some 24) (v := ?_) (a' := ?_) Qar rfl rfl Qm Qd (Or.inl ⟨by rfl, ?_⟩) ?_ ?_
   rotate_left
   ·exact Qf
   rotate_left
   ·exact Qc
   refine oc_ (i := 1) (N := some 25) (v := ?_) (a' := ?_) Qat rfl rfl Qm Qd (Or.inl ⟨by rfl, ?_⟩) ?_ ?_
   rotate_left
   ·exact Qf
   rotate_left
   ·exact Qc
   refine oc_ (i := 5) (N := some 29) (v := ?_) (a' := ?_) #[true, true, false, false, false, true, false, false, false, false, false] rfl rfl Qm Qd (Or.inl ⟨by rfl, ?_⟩) ?_ ?_
   rotate_left
   ·exact Qf
   rotate_left
   ·exact Qc
   refine inv_at [2, 3, 4, 6, 7, 8, 9, 10] (fun a0_ b a w' => ∃ (v246 : Value) (adz_v246 : Addr) (m7_ : Value), a = putSel a0_ b [(2, 26, .int .i64 t243), (3, 27, .string (x5_6.extract (t243 : Int).toNat x5_6.size)), (4, 28, v246), (6, 30, .int .i64 t248), (7, 31, m7_), (8, 32, .string (rdOf ByteArray.empty y245 t248)), (9, 33, .string ((x5_6.extract (t243 : Int).toNat x5_6.size) ++ (rdOf ByteArray.empty y245 t248))), (10, 5, .string ((x5_6.extract (t243 : Int).toNat x5_6.size) ++ (rdOf ByteArray.empty y245 t248)))] ∧ (b 2 = false → ya_ w0 w' g s0_0 t242) ∧ (vb_ w w' g none) ∧ (Below w0.heap.size w0 w') ∧ (b 2 = true → b 6 = false → ya_ w0 w' g s0_0 t244) ∧ (b 4 = true → Kd.R Kd.string 9 w' w.heap.size (fun _ => True) v246 y245) ∧ (b 4 = true → ∃ c_, (v246 : Value) = .slice (some adz_v246) y245.length c_) ∧ (b 6 = true → ya_ w0 w' g s0_0 t249) ∧ (b 7 = true → (m7_ : Value) = .pointer (some (adz_v246.add (t248).toNat)))) HT_.out HW_.out Qb Qb ?_ ?_ ?_
   ·exact ⟨.bool false, ⟨0, 0, none⟩, .bool false, by simp only [putSel, Bool.false_eq_true, if_false], fun _ => HI0.out, HK.out, HB.out, fun h_ => absurd h_ Qh, fun h_ => absurd h_ Qh, fun h_ => absurd h_ Qh, fun h_ => absurd h_ Qh, fun h_ => absurd h_ Qh⟩
   ·skip
    clear HB HI0 HK
    refine ah_ ?_ ?_
    ·rintro b a w' ⟨v246, adz_v246, m7_, ha, Q_HI0, Q_HK, Q_HB, Q_HI0_e2, Q_HO247, Q_HA_HO247, Q_HI0_e6, Q_X7_⟩ hb_ hon hoff
     refine ⟨_, rfl, fun K hK => ?_⟩
     have e25 : a.tmps[25]? = some (.pointer (some ⟨g, 0, none⟩)) := by rw [ha]; exact (yi_ rfl).trans rfl
     replace ha := ba_.mk ha
     have HI0 := ba_.mk (Q_HI0 hb_)
     have HK := ba_.mk Q_HK
     have HB := ba_.mk Q_HB
     refine un_ Tryz.func30 Qb rfl #[.pointer (some ⟨g, 0, none⟩), .int .i64 2] (by rfl) rfl rfl (by first | (simp only [List.map_toArray, List.map_cons, List.map_nil, Act.eval, Array.getD_eq_getD_getElem?, Option.getD_some, e25]; done) | (simp only [List.map_toArray, List.map_cons, List.map_nil, Act.eval, Array.getD_eq_getD_getElem?, Option.getD_some, e25]; rfl)) ?_
     with_reducible refine (kb_.calls g s0_0 t242 2 t243 t244 w0 _ ?side1 ?side2 A17.out).mono ?_
     (case side1 => exact Q7)
     (case side2 => exact Q8)
     rintro e w26 ⟨rfl, hi, hb, hk⟩
     refine ⟨_, rfl, ?_⟩
     have n0_ := ba_.mk (vb_.trans Qs hk (.inl rfl))
     have n1_ := ba_.mk (hb)
     have n2_ := ba_.mk (hi)
     have z_HO247 := fun (h0_ : b 4 = true) => (show Kd.R Kd.string 9 w26 w.heap.size (fun _ => True) v246 y245 from by first | exact (Kd.rd_ (Kd.fk_ (ya_.apart (show ya_ w0 _ g s0_0 t242 from by repeat (first | (with_reducible first | exact HI0.out | apply ya_.alloc | apply ya_.drewN | apply ya_.drew | apply ya_.je_) | exact HI0.out)) Yn Qh) hk (fun _ h => h.2)) (fun _ h => h.1)) | exact Kd.rd_ (Kd.rd_ (Kd.fk_ (ya_.apart (show ya_ w0 _ g s0_0 t242 from by repeat (first | (with_reducible first | exact HI0.out | apply ya_.alloc | apply ya_.drewN | apply ya_.drew | apply ya_.je_) | exact HI0.out)) Yn Qh) hk (fun _ h => h.2)) (fun _ h => h.1)) (fun _ h_ => by first | trivial | exact h_ | exact h_.1))
     clear HK
     clear HB
     clear HI0
     have HK := n0_
     have HB := n1_
     have HI0 := n2_
     clear n0_ n1_ n2_
     (try clear hb)
     (try clear hb2)
     (try clear hk)
     (try clear hi)
     refine hK.out _ _ ⟨v246, adz_v246, m7_, (by rw [ha.out]; exact zg_ 0 hb_ rfl rfl rfl), fun h0_ => absurd ((in_ b 2).symm.trans h0_) Qh, Qs, Qy, fun _ _ => Qx, z_HO247, Q_HA_HO247, fun h0_ => absurd ((hoff 6 Qb).symm.trans h0_) Qh, fun h0_ => absurd ((hoff 7 Qb).symm.trans h0_) Qh⟩
    refine ah_ ?_ ?_
    ·rintro b a w' ⟨v246, adz_v246, m7_, ha, Q_HI0, Q_HK, Q_HB, Q_HI0_e2, Q_HO247, Q_HA_HO247, Q_HI0_e6, Q_X7_⟩ hb_ hon hoff
     refine ⟨_, rfl, fun K hK => ?_⟩
     have e24 : a.tmps[24]? = some (.string x5_6) := by rw [ha]; exact (yi_ rfl).trans rfl
     have e26 : a.tmps[26]? = some (.int .i64 t243) := by rw [ha]; exact ji_ (e := (2, 26, .int .i64 t243)) 0 rfl rfl (hon 2 Qb) rfl
     replace ha := ba_.mk ha
     have HK := ba_.mk Q_HK
     have HB := ba_.mk Q_HB
     refine bv_ (w1 := w') (v := .string (x5_6.extract (t243 : Int).toNat x5_6.size)) (by rfl) rfl ?_ ?_
     ·go_simp
      (try simp only [yb_])
      try rfl
     refine hK.out _ _ ⟨v246, adz_v246, m7_, (by rw [ha.out]; exact zg_ 1 hb_ rfl rfl rfl), fun h0_ => absurd ((hon 2 Qb).symm.trans h0_) Qh, Q_HK, Q_HB, Q_HI0_e2, Q_HO247, Q_HA_HO247, Q_HI0_e6, Q_X7_⟩
    refine ah_ ?_ ?_
    ·rintro b a w' ⟨v246, adz_v246, m7_, ha, Q_HI0, Q_HK, Q_HB, Q_HI0_e2, Q_HO247, Q_HA_HO247, Q_HI0_e6, Q_X7_⟩ hb_ hon hoff
     refine ⟨_, rfl, fun K hK => ?_⟩
     replace ha := ba_.mk ha
     have HK := ba_.mk Q_HK
     have HB := ba_.mk Q_HB
     refine Kd.ly_ Kd.string _ 9 ?hg (N := 28) ?hd (xs := ([(⟨#[]⟩ : ByteArray), (⟨#[48]⟩ : ByteArray), (⟨#[50]⟩ : ByteArray)] : List ByteArray)) (inner := [.string (⟨#[]⟩ : ByteArray), .string (⟨#[48]⟩ : ByteArray), .string (⟨#[50]⟩ : ByteArray)]) (ok := fun _ => True) (okp := fun _ => True) ?hr ?hp (fun _ hk => hk) trivial (Below.refl _ _) (Nat.le_refl _) Qo ?_; (case hd => rfl); (case hg => rfl); (case hr => exact Qt); (case hp => exact (Reps.one (show Kd.M Kd.string _ _ _ (⟨#[]⟩ : ByteArray) [.string (⟨#[]⟩ : ByteArray)] from rfl) (Reps.one (show Kd.M Kd.string _ _ _ (⟨#[48]⟩ : ByteArray) [.string (⟨#[48]⟩ : ByteArray)] from rfl) (Reps.one (show Kd.M Kd.string _ _ _ (⟨#[50]⟩ : ByteArray) [.string (⟨#[50]⟩ : ByteArray)] from rfl) (Reps.none _ _)))))
     intro v246 w26 ho27 hb hg_ hnew_
     clear hg_ hnew_
     (first | rw [← Ny245.out] at ho27 | (simp only [Int.reduceToNat] at ho27; rw [← Ny245.out] at ho27))
     have n0_ := ba_.mk (Kd.td_ ho27 (pj_ (w := w) (g := g) (row := none) Qs))
     have n2_ := ba_.mk (vb_.trans Qs (vb_.qi_ hb g none) (.inl rfl))
     have n3_ := ba_.mk (wa_ Qe hb)
     have z_HI0 := fun (h0_ : b 2 = false) => (show ya_ w0 w26 g s0_0 t242 from by first | exact (ya_.below (by repeat (first | (with_reducible first | exact (Q_HI0 h0_) | apply ya_.alloc | apply ya_.drewN | apply ya_.drew | apply ya_.je_) | exact (Q_HI0 h0_))) hb))
     have z_HI0_e2 := fun (h0_ : b 2 = true) (h1_ : b 6 = false) => (show ya_ w0 w26 g s0_0 t244 from by first | exact (ya_.below (by repeat (first | (with_reducible first | exact (Q_HI0_e2 h0_ h1_) | apply ya_.alloc | apply ya_.drewN | apply ya_.drew | apply ya_.je_) | exact (Q_HI0_e2 h0_ h1_))) hb))
     have z_HI0_e6 := fun (h0_ : b 6 = true) => (show ya_ w0 w26 g s0_0 t249 from by first | exact (ya_.below (by repeat (first | (with_reducible first | exact (Q_HI0_e6 h0_) | apply ya_.alloc | apply ya_.drewN | apply ya_.drew | apply ya_.je_) | exact (Q_HI0_e6 h0_))) hb))
     clear HK
     clear HB
     have HO247 := n0_
     have HK := n2_
     have HB := n3_
     clear n0_ n2_ n3_
     clear hb ho27
     obtain ⟨Ao28, co28, eo28⟩ := Kd.pd_ HO247.out
     subst eo28
     obtain ⟨ado28, fo28, _⟩ := Kd.mk_ (Kd.cc_ HO247.out).2.2 0 Qh (by rw [Ny245.out]; simp)
     cases fo28
     refine hK.out _ _ ⟨.slice (some ado28) y245.length co28, ado28, m7_, (by rw [ha.out]; exact zg_ 2 hb_ rfl rfl rfl), z_HI0, Qs, Qe, z_HI0_e2, fun _ => (Ql HO247.out), fun _ => ⟨_, rfl⟩, z_HI0_e6, fun h0_ => absurd ((hoff 7 Qb).symm.trans h0_) Qh⟩
    refine ah_ ?_ ?_
    ·rintro b a w' ⟨v246, adz_v246, m7_, ha, Q_HI0, Q_HK, Q_HB, Q_HI0_e2, Q_HO247, Q_HA_HO247, Q_HI0_e6, Q_X7_⟩ hb_ hon hoff
     refine ⟨_, rfl, fun K hK => ?_⟩
     have e29 : a.tmps[29]? = some (.pointer (some ⟨g, 0, none⟩)) := by rw [ha]; exact (yi_ rfl).trans rfl
     replace ha := ba_.mk ha
     have HK := ba_.mk Q_HK
     have HB := ba_.mk Q_HB
     have HI0 := ba_.mk (Q_HI0_e2 (hon 2 Qb) hb_)
     refine un_ Tryz.func30 Qb rfl #[.pointer (some ⟨g, 0, none⟩), .int .i64 3] (by rfl) rfl rfl (by first | (simp only [List.map_toArray, List.map_cons, List.map_nil, Act.eval, Array.getD_eq_getD_getElem?, Option.getD_some, e29]; done) | (simp only [List.map_toArray, List.map_cons, List.map_nil, Act.eval, Array.getD_eq_getD_getElem?, Option.getD_some, e29]; rfl)) ?_
     with_reducible refine (kb_.calls g s0_0 t244 3 t248 t249 w0 _ ?side1 ?side2 A20.out).mono ?_
     (case side1 => exact Q7)
     (case side2 => exact Q8)
     rintro e w28 ⟨rfl, hi, hb, hk⟩
     refine ⟨_, rfl, ?_⟩
     have n0_ := ba_.mk (vb_.trans Qs hk (.inl rfl))
     have n1_ := ba_.mk (hb)
     have n2_ := ba_.mk (hi)
     have z_HO247 := fun (h0_ : b 4 = true) => (show Kd.R Kd.string 9 w28 w.heap.size (fun _ => True) v246 y245 from by first | exact (Kd.rd_ (Kd.fk_ (ya_.apart (show ya_ w0 _ g s0_0 t244 from by repeat (first | (with_reducible first | exact HI0.out | apply ya_.alloc | apply ya_.drewN | apply ya_.drew | apply ya_.je_) | exact HI0.out)) Yn Qh) hk (fun _ h => h.2)) (fun _ h => h.1)) | exact Kd.rd_ (Kd.rd_ (Kd.fk_ (ya_.apart (show ya_ w0 _ g s0_0 t244 from by repeat (first | (with_reducible first | exact HI0.out | apply ya_.alloc | apply ya_.drewN | apply ya_.drew | apply ya_.je_) | exact HI0.out)) Yn Qh) hk (fun _ h => h.2)) (fun _ h => h.1)) (fun _ h_ => by first | trivial | exact h_ | exact h_.1))
     clear HK
     clear HB
     clear HI0
     have HK := n0_
     have HB := n1_
     have HI0 := n2_
     clear n0_ n1_ n2_
     (try clear hb)
     (try clear hb2)
     (try clear hk)
     (try clear hi)
     refine hK.out _ _ ⟨v246, adz_v246, m7_, (by rw [ha.out]; exact zg_ 3 hb_ rfl rfl rfl), fun h0_ => absurd ((hon 2 Qb).symm.trans h0_) Qh, Qs, Qy, fun _ h1_ => absurd ((in_ b 6).symm.trans h1_) Qh, z_HO247, Q_HA_HO247, fun _ => Qx, fun h0_ => absurd ((hoff 7 Qb).symm.trans h0_) Qh⟩
    refine ah_ ?_ ?_
    ·rintro b a w' ⟨v246, adz_v246, m7_, ha, Q_HI0, Q_HK, Q_HB, Q_HI0_e2, Q_HO247, Q_HA_HO247, Q_HI0_e6, Q_X7_⟩ hb_ hon hoff
     refine ⟨_, rfl, fun K hK => ?_⟩
     have e28 : a.tmps[28]? = some (v246) := by rw [ha]; exact ji_ (e := (4, 28, v246)) 2 rfl rfl (hon 4 Qb) rfl
     have e30 : a.tmps[30]? = some (.int .i64 t248) := by rw [ha]; exact ji_ (e := (6, 30, .int .i64 t248)) 3 rfl rfl (hon 6 Qb) rfl
     replace ha := ba_.mk ha
     have HK := ba_.mk Q_HK
     have HB := ba_.mk Q_HB
     have HO247 := ba_.mk (Q_HO247 (hon 4 Qb))
     have HA_HO247 := ba_.mk (Q_HA_HO247 (hon 4 Qb))
     have HI0 := ba_.mk (Q_HI0_e6 (hon 6 Qb))
     obtain ⟨c_, hv_⟩ := HA_HO247.out
     rw [hv_] at e28
     refine bv_ (w1 := w') (v := .pointer (some (adz_v246.add (t248).toNat))) (by rfl) rfl ?_ ?_
     ·go_simp
      (try simp only [yb_])
      try rfl
     refine hK.out _ _ ⟨v246, adz_v246, (.pointer (some (adz_v246.add (t248).toNat))), (by rw [ha.out]; exact zg_ 4 hb_ rfl rfl rfl), fun h0_ => absurd ((hon 2 Qb).symm.trans h0_) Qh, Q_HK, Q_HB, fun _ h1_ => absurd ((hon 6 Qb).symm.trans h1_) Qh, Q_HO247, Q_HA_HO247, Q_HI0_e6, fun _ => rfl⟩
    refine ah_ ?_ ?_
    ·rintro b a w' ⟨v246, adz_v246, m7_, ha, Q_HI0, Q_HK, Q_HB, Q_HI0_e2, Q_HO247, Q_HA_HO247, Q_HI0_e6, Q_X7_⟩ hb_ hon hoff
     refine ⟨_, rfl, fun K hK => ?_⟩
     have e31 : a.tmps[31]? = some (m7_) := by rw [ha]; exact ji_ (e := (7, 31, m7_)) 4 rfl rfl (hon 7 Qb) rfl
     rw [Q_X7_ (hon 7 Qb)] at e31
     replace ha := ba_.mk ha
     have HK := ba_.mk Q_HK
     have HB := ba_.mk Q_HB
     have HO247 := ba_.mk (Q_HO247 (hon 4 Qb))
     have HA_HO247 := ba_.mk (Q_HA_HO247 (hon 4 Qb))
     have HI0 := ba_.mk (Q_HI0_e6 (hon 6 Qb))
     obtain ⟨c_, hv_⟩ := HA_HO247.out
     have hF_ := HO247.out
     rw [hv_] at hF_
     obtain ⟨ad_, ea_, hx_⟩ := Kd.mk_ (Kd.cc_ hF_).2.2 t248 (of_eq_true pi250) (of_eq_true qi250)
     cases ea_
     refine bv_ (w1 := w') (v := .string (rdOf ByteArray.empty y245 t248)) (by rfl) rfl ?_ ?_
     ·go_simp
      (try simp only [yb_])
      try rfl
     refine hK.out _ _ ⟨v246, adz_v246, m7_, (by rw [ha.out]; exact zg_ 5 hb_ rfl rfl rfl), fun h0_ => absurd ((hon 2 Qb).symm.trans h0_) Qh, Q_HK, Q_HB, fun _ h1_ => absurd ((hon 6 Qb).symm.trans h1_) Qh, Q_HO247, Q_HA_HO247, Q_HI0_e6, Q_X7_⟩
    refine ah_ ?_ ?_
    ·rintro b a w' ⟨v246, adz_v246, m7_, ha, Q_HI0, Q_HK, Q_HB, Q_HI0_e2, Q_HO247, Q_HA_HO247, Q_HI0_e6, Q_X7_⟩ hb_ hon hoff
     refine ⟨_, rfl, fun K hK => ?_⟩
     have e27 : a.tmps[27]? = some (.string (x5_6.extract (t243 : Int).toNat x5_6.size)) := by rw [ha]; exact ji_ (e := (3, 27, .string (x5_6.extract (t243 : Int).toNat x5_6.size))) 1 rfl rfl (hon 3 Qb) rfl
     have e32 : a.tmps[32]? = some (.string (rdOf ByteArray.empty y245 t248)) := by rw [ha]; exact ji_ (e := (8, 32, .string (rdOf ByteArray.empty y245 t248))) 5 rfl rfl (hon 8 Qb) rfl
     replace ha := ba_.mk ha
     have HK := ba_.mk Q_HK
     have HB := ba_.mk Q_HB
     have HO247 := ba_.mk (Q_HO247 (hon 4 Qb))
     have HA_HO247 := ba_.mk (Q_HA_HO247 (hon 4 Qb))
     have HI0 := ba_.mk (Q_HI0_e6 (hon 6 Qb))
     refine bv_ (w1 := w') (v := .string ((x5_6.extract (t243 : Int).toNat x5_6.size) ++ (rdOf ByteArray.empty y245 t248))) (by rfl) rfl ?_ ?_
     ·go_simp
      (try simp only [yb_])
      try rfl
      try (have h_ := c23; simp only [ByteArray.size_extract] at h_; omega)
     refine hK.out _ _ ⟨v246, adz_v246, m7_, (by rw [ha.out]; exact zg_ 6 hb_ rfl rfl rfl), fun h0_ => absurd ((hon 2 Qb).symm.trans h0_) Qh, Q_HK, Q_HB, fun _ h1_ => absurd ((hon 6 Qb).symm.trans h1_) Qh, Q_HO247, Q_HA_HO247, Q_HI0_e6, Q_X7_⟩
    refine ah_ ?_ ?_
    ·rintro b a w' ⟨v246, adz_v246, m7_, ha, Q_HI0, Q_HK, Q_HB, Q_HI0_e2, Q_HO247, Q_HA_HO247, Q_HI0_e6, Q_X7_⟩ hb_ hon hoff
     refine ⟨_, rfl, fun K hK => ?_⟩
     have e33 : a.tmps[33]? = some (.string ((x5_6.extract (t243 : Int).toNat x5_6.size) ++ (rdOf ByteArray.empty y245 t248))) := by rw [ha]; exact ji_ (e := (9, 33, .string ((x5_6.extract (t243 : Int).toNat x5_6.size) ++ (rdOf ByteArray.empty y245 t248)))) 6 rfl rfl (hon 9 Qb) rfl
     replace ha := ba_.mk ha
     have HK := ba_.mk Q_HK
     have HB := ba_.mk Q_HB
     have HO247 := ba_.mk (Q_HO247 (hon 4 Qb))
     have HA_HO247 := ba_.mk (Q_HA_HO247 (hon 4 Qb))
     have HI0 := ba_.mk (Q_HI0_e6 (hon 6 Qb))
     refine bv_ (w1 := w') (v := .string ((x5_6.extract (t243 : Int).toNat x5_6.size) ++ (rdOf ByteArray.empty y245 t248))) (by rfl) rfl ?_ ?_
     ·go_simp
      (try simp only [yb_])
      try rfl
      try (have h_ := c23; simp only [ByteArray.size_extract] at h_; omega)
     refine hK.out _ _ ⟨v246, adz_v246, m7_, (by rw [ha.out]; exact zg_ 7 hb_ rfl rfl rfl), fun h0_ => absurd ((hon 2 Qb).symm.trans h0_) Qh, Q_HK, Q_HB, fun _ h1_ => absurd ((hon 6 Qb).symm.trans h1_) Qh, Q_HO247, Q_HA_HO247, Q_HI0_e6, Q_X7_⟩
    exact qc1_
   rintro b a w31 hall ⟨v246, adz_v246, m7_, ha, Q_HI0, Q_HK, Q_HB, Q_HI0_e2, Q_HO247, Q_HA_HO247, Q_HI0_e6, Q_X7_⟩
   clear HB HI0 HK
   have hb2_ := hall 2 Qb
   have hb3_ := hall 3 Qb
   have hb4_ := hall 4 Qb
   have hb6_ := hall 6 Qb
   have hb7_ := hall 7 Qb
   have hb8_ := hall 8 Qb
   have hb9_ := hall 9 Qb
   have hb10_ := hall 10 Qb
   subst ha
   obtain rfl := Q_X7_ hb7_
   simp only [putSel, hb2_, hb3_, hb4_, hb6_, hb7_, hb8_, hb9_, hb10_, if_true, Act.put, List.setIfInBounds_toArray, List.set_cons_zero, List.set_cons_succ]
   clear Q_HI0
   have HK := ba_.mk Q_HK
   clear Q_HK
   have HB := ba_.mk Q_HB
   clear Q_HB
   clear Q_HI0_e2
   have HO247 := ba_.mk (Q_HO247 hb4_)
   clear Q_HO247
   have HA_HO247 := ba_.mk (Q_HA_HO247 hb4_)
   clear Q_HA_HO247
   have HI0 := ba_.mk (Q_HI0_e6 hb6_)
   clear Q_HI0_e6
   clear hall hb2_ hb3_ hb4_ hb6_ hb7_ hb8_ hb9_ hb10_
   obtain ⟨co32, eo32⟩ := HA_HO247.out
   clear HA_HO247
   subst eo32
   try go_wp2
   go_ret
   exact ⟨Qq, Qx, Qy, Qs⟩
def qb_.l0 : Nat → ByteArray → Int → List Int → Int → Option (ByteArray × Int)
 | 0, _, _, _, _ => none
 | k + 1, x3, x4, x1000, x1001 => if x4 < 74 then ((some (([(⟨#[48]⟩ : ByteArray), (⟨#[49]⟩ : ByteArray), (⟨#[49]⟩ : ByteArray), (⟨#[48]⟩ : ByteArray), (⟨#[63]⟩ : ByteArray)] : List ByteArray) : List ByteArray)).bind fun y251 => ((kb_.f x1000 x1001 5).bind fun bt254 => (if 0 ≤ bt254.1 then (if bt254.1 < (y251.length : Int) then (if x3.size + (rdOf ByteArray.empty y251 bt254.1).size ≤ 9223372036854775807 then (qb_.l0 k (x3 ++ (rdOf ByteArray.empty y251 bt254.1)) (wrap64 (x4 + 1)) x1000 bt254.2) else (none)) else (none)) else (none)))) else (some (x3, x1001))
def qb_.f (k : Nat) (s0_0 : List Int) (s0_1 : Int) : Option (ByteArray × Int) := qb_.l0 k (⟨#[]⟩ : ByteArray) 0 s0_0 s0_1
theorem qb_.yc_ : ∀ k, (∀ y0 y1 y2 y3, LeO (qb_.l0 k y0 y1 y2 y3) (qb_.l0 (k + 1) y0 y1 y2 y3))
 | 0 => fun _ _ _ _ r h => by simp [qb_.l0] at h
 | k + 1 => by
  have ih0 := qb_.yc_ k
  intro y0 y1 y2 y3
  unfold qb_.l0
  repeat' first
  | (with_reducible exact ih0 _ _ _ _)
  | (with_reducible first | exact LeO.refl _ | exact LeO.none _ | refine LeO.ite ?_ ?_ | refine LeO.bind ?_ (fun _ => ?_))
  | exact ih0 _ _ _ _
  | exact LeO.none _
  | refine LeO.ite ?_ ?_
  | refine LeO.bind ?_ (fun _ => ?_)
theorem qb_.mono : ∀ a0 a1 k, LeO (qb_.f k a0 a1) (qb_.f (k + 1) a0 a1) := by
 intro a0 a1 k
 have ih0 := qb_.yc_ k
 unfold qb_.f
 repeat' first
   | (with_reducible exact ih0 _ _ _ _)
   | (with_reducible first | exact LeO.refl _ | exact LeO.none _ | refine LeO.ite ?_ ?_ | refine LeO.bind ?_ (fun _ => ?_))
   | exact ih0 _ _ _ _
   | exact LeO.none _
   | refine LeO.ite ?_ ?_
   | refine LeO.bind ?_ (fun _ => ?_)
set_option maxHeartbeats 8000000 in
set_option maxRecDepth 100000 in
theorem qb_.calls (k : Nat) (g : Nat) (s0_0 : List Int) (s0_1 : Int) (r1 : ByteArray) (r2 : Int) (w0 w : World) (hI : ya_ w0 w g s0_0 s0_1) (hB : Below w0.heap.size w0 w) (h : qb_.f k s0_0 s0_1 = some (r1, r2)) :
  Calls Tryz.prog 24 #[.pointer (some ⟨g, 0, none⟩)] w fun e w' => e = .returned (.string r1) ∧ ya_ w0 w' g s0_0 r2 ∧ Below w0.heap.size w0 w' ∧ vb_ w w' g none := by
 have HI0 := ba_.mk hI
 have HK := ba_.mk (vb_.refl w g none)
 have HL := ba_.mk hB.size
 clear hI
 have HW0 := ba_.mk hB.size
 have HB := ba_.mk hB
 clear hB
 have H : (qb_.l0 k (⟨#[]⟩ : ByteArray) 0 s0_0 s0_1) = some (r1, r2) := h
 clear h
 have H' := ba_.mk H
 clear H
 go_enter Tryz.func24, Tryz.ntmps24
 go_wp2
 go_loopg [3, 4] k (fun kq v3 v4 w' => ∃ (x3_1 : ByteArray) (x4_1 : Int) (x1001_1 : Int), v3 = .string x3_1 ∧ v4 = .int .i64 x4_1 ∧ ba_ (qb_.l0 kq x3_1 x4_1 s0_0 x1001_1 = some (r1, r2)) ∧ ba_ (kq ≤ k) ∧ ba_ (ya_ w0 w' g s0_0 x1001_1) ∧ ba_ (vb_ w w' g none) ∧ ba_ (Below w0.heap.size w0 w'))
 case atStart => exact ⟨((⟨#[]⟩ : ByteArray)), (0), (s0_1), Qi, Qi, H', ⟨Nat.le_refl _⟩, ⟨Qx⟩, ⟨Qs⟩, ⟨Qy⟩⟩
 case round =>
  clear H'
  obtain ⟨x3_1, x4_1, x1001_1, rfl, rfl, HA, HK1, HI0, HK, HB⟩ := hrel
  cases gk with
  | zero => exact absurd HA.out (by simp [qb_.l0])
  | succ k1 =>
   have H := HA.out
   clear HA
   simp only [qb_.l0] at H
   by_cases c2 : x4_1 < 74
   rotate_left
   ·rw [if_neg c2] at H
    have c2b0 := decide_eq_false c2
    clear c2
    simp only [Option.some.injEq, Prod.mk.injEq] at H
    obtain ⟨rfl, rfl⟩ := H
    go_wp2
    go_ret
    exact ⟨Qq, Qx, Qy, Qs⟩
   rw [if_pos c2] at H
   have c2b0 := decide_eq_true c2
   clear c2
   obtain ⟨y251, hy251⟩ : ∃ y_ : List ByteArray, y_ = (([(⟨#[48]⟩ : ByteArray), (⟨#[49]⟩ : ByteArray), (⟨#[49]⟩ : ByteArray), (⟨#[48]⟩ : ByteArray), (⟨#[63]⟩ : ByteArray)] : List ByteArray)) := ⟨_, rfl⟩
   replace H : ((kb_.f s0_0 x1001_1 5).bind fun bt254 => (if 0 ≤ bt254.1 then (if bt254.1 < (y251.length : Int) then (if x3_1.size + (rdOf ByteArray.empty y251 bt254.1).size ≤ 9223372036854775807 then (qb_.l0 k1 (x3_1 ++ (rdOf ByteArray.empty y251 bt254.1)) (wrap64 (x4_1 + 1)) s0_0 bt254.2) else (none)) else (none)) else (none))) = some (r1, r2) := by first | (rw [hy251]; with_reducible exact H) | (have H2_ := (Option.bind_some _ _).symm.trans H; rw [hy251]; with_reducible exact H2_) | (have H2_ := (Option.bind_some _ _).symm.trans H; with_reducible exact H2_) | with_reducible exact H | (rw [hy251]; exact H) | exact H
   have Ny251 := ba_.mk hy251
   clear hy251
   obtain ⟨⟨t254, t255⟩, A3, H⟩ := Qk H
   try dsimp only at H
   obtain ⟨c4, H⟩ := Qn H
   have c4b0 := decide_eq_true c4
   clear c4
   obtain ⟨c5, H⟩ := Qn H
   have c5b0 := decide_eq_true c5
   clear c5
   obtain ⟨c6, H⟩ := Qn H
   have c6b0 := eq_true c6
   have c6b1 := decide_eq_true c6
   try have c6b2 : (9223372036854775807 < x3_1.size + (rdOf ByteArray.empty y251 t254).size) = False := eq_false (Nat.not_lt.2 c6)
   have H' := ba_.mk H
   clear H
   go_wp2_with (first | ((with_reducible refine md_ (N := 10) rfl ?_); refine Kd.sm_ Kd.string _ 9 ?hg (N := 10) ?hd (xs := ([(⟨#[48]⟩ : ByteArray), (⟨#[49]⟩ : ByteArray), (⟨#[49]⟩ : ByteArray), (⟨#[48]⟩ : ByteArray), (⟨#[63]⟩ : ByteArray)] : List ByteArray)) (inner := [.string (⟨#[48]⟩ : ByteArray), .string (⟨#[49]⟩ : ByteArray), .string (⟨#[49]⟩ : ByteArray), .string (⟨#[48]⟩ : ByteArray), .string (⟨#[63]⟩ : ByteArray)]) (ok := fun _ => True) (okp := fun _ => True) ?hr ?hp (fun _ hk => hk) trivial (Below.refl _ _) (Nat.le_refl _) Qo ?_; (case hd => rfl); (case hg => rfl); (case hr => exact Qt); (case hp => exact (Reps.one (show Kd.M Kd.string _ _ _ (⟨#[48]⟩ : ByteArray) [.string (⟨#[48]⟩ : ByteArray)] from rfl) (Reps.one (show Kd.M Kd.string _ _ _ (⟨#[49]⟩ : ByteArray) [.string (⟨#[49]⟩ : ByteArray)] from rfl) (Reps.one (show Kd.M Kd.string _ _ _ (⟨#[49]⟩ : ByteArray) [.string (⟨#[49]⟩ : ByteArray)] from rfl) (Reps.one (show Kd.M Kd.string _ _ _ (⟨#[48]⟩ : ByteArray) [.string (⟨#[48]⟩ : ByteArray)] from rfl) (Reps.one (show Kd.M Kd.string _ _ _ (⟨#[63]⟩ : ByteArray) [.string (⟨#[63]⟩ : ByteArray)] from rfl) (Reps.none _ _))))))); intro v252 w7 ho8 hb hg_ hnew_; clear hg_ hnew_; (first | rw [← Ny251.out] at ho8 | (simp only [Int.reduceToNat] at ho8; rw [← Ny251.out] at ho8)); have n0_ := ba_.mk (Kd.td_ ho8 (pj_ (w := w) (g := g) (row := none) Qs)); have n1_ := ba_.mk (ya_.below Qx hb); have n2_ := ba_.mk (vb_.trans Qs (vb_.qi_ hb g none) (.inl rfl)); have n3_ := ba_.mk (wa_ Qy hb); clear HI0; clear HK; clear HB; have HO253 := n0_; have HI0 := n1_; have HK := n2_; have HB := n3_; clear n0_ n1_ n2_ n3_; clear hb ho8) | ((with_reducible refine ia_ (f := 30) rfl ?_); refine gc_ (some 12) rfl rfl Tryz.func30 Qb rfl #[.pointer (some ⟨g, 0, none⟩), .int .i64 5] rfl Qj ?_; (with_reducible refine (kb_.calls g s0_0 x1001_1 5 t254 t255 w0 _ ?side1 ?side2 A3.out).mono ?_); (case side1 => exact Q7); (case side2 => exact Q8); rintro e w9 ⟨rfl, hi, hb, hk⟩; refine ⟨_, rfl, ?_⟩; have n0_ := ba_.mk (Kd.rd_ (Kd.fk_ (ya_.apart (show ya_ w0 _ g s0_0 x1001_1 from by repeat (first | (with_reducible first | exact HI0.out | apply ya_.alloc | apply ya_.drewN | apply ya_.drew | apply ya_.je_) | exact HI0.out)) (Ql HO253.out) Qh) hk (fun _ h => h.2)) (fun _ h => h.1)); have n1_ := ba_.mk (vb_.trans Qs hk (.inl rfl)); have n2_ := ba_.mk (hb); have n3_ := ba_.mk (hi); clear HO253; clear HK; clear HB; clear HI0; have HO253 := n0_; have HK := n1_; have HB := n2_; have HI0 := n3_; clear n0_ n1_ n2_ n3_; (try clear hb); (try clear hb2); (try clear hk); (try clear hi); obtain ⟨Ao10, co10, eo10⟩ := Kd.pd_ HO253.out; subst eo10; have p256 : 0 ≤ (t254 : Int) := of_decide_eq_true Qg; have q256 : t254 < (y251.length : Int) := of_decide_eq_true Qg; obtain ⟨ad256, e256, hx256_0⟩ := Kd.mk_ (Kd.cc_ HO253.out).2.2 t254 p256 q256; cases e256; replace p256 := eq_true p256; replace q256 := eq_true q256))
   go_roundg k1
   case measure => have := HK1.out; omega
   case rel => exact ⟨(x3_1 ++ (rdOf ByteArray.empty y251 t254)), (wrap64 (x4_1 + 1)), (t255), Qi, Qi, H', ⟨Qw⟩, ⟨Qx⟩, ⟨Qs⟩, ⟨Qy⟩⟩
def gb_.l0 : Nat → ByteArray → Int → Option (Bool)
 | 0, _, _ => none
 | k + 1, x0, x3 => if x3 < (x0.size : Int) then (if 0 ≤ x3 then (if (bt x0 x3) = 48 then (gb_.l0 k x0 (wrap64 (x3 + 1))) else (if (bt x0 x3) = 49 then (gb_.l0 k x0 (wrap64 (x3 + 1))) else (if (bt x0 x3) = 63 then (gb_.l0 k x0 (wrap64 (x3 + 1))) else (some false)))) else (none)) else (some true)
def gb_.f (k : Nat) (a0 : ByteArray) : Option (Bool) := if (a0.size : Int) = 74 then (gb_.l0 k a0 0) else (some false)
theorem gb_.yc_ : ∀ k, (∀ y0 y1, LeO (gb_.l0 k y0 y1) (gb_.l0 (k + 1) y0 y1))
 | 0 => fun _ _ r h => by simp [gb_.l0] at h
 | k + 1 => by
  have ih0 := gb_.yc_ k
  intro y0 y1
  unfold gb_.l0
  repeat' first
  | (with_reducible exact ih0 _ _)
  | (with_reducible first | exact LeO.refl _ | exact LeO.none _ | refine LeO.ite ?_ ?_ | refine LeO.bind ?_ (fun _ => ?_))
  | exact ih0 _ _
  | exact LeO.none _
  | refine LeO.ite ?_ ?_
  | refine LeO.bind ?_ (fun _ => ?_)
theorem gb_.mono : ∀ a0 k, LeO (gb_.f k a0) (gb_.f (k + 1) a0) := by
 intro a0 k
 have ih0 := gb_.yc_ k
 unfold gb_.f
 repeat' first
   | (with_reducible exact ih0 _ _)
   | (with_reducible first | exact LeO.refl _ | exact LeO.none _ | refine LeO.ite ?_ ?_ | refine LeO.bind ?_ (fun _ => ?_))
   | exact ih0 _ _
   | exact LeO.none _
   | refine LeO.ite ?_ ?_
   | refine LeO.bind ?_ (fun _ => ?_)
set_option maxHeartbeats 8000000 in
set_option maxRecDepth 100000 in
theorem gb_.calls (k : Nat) (a0 : ByteArray) (r : Bool) (w : World) (h : gb_.f k a0 = some r) :
  Calls Tryz.prog 57 #[.string a0] w fun e w' => e = .returned (.bool r) ∧ ja_ w w' := by
 have H : (if (a0.size : Int) = 74 then (gb_.l0 k a0 0) else (some false)) = some r := h
 clear h
 by_cases c2 : (a0.size : Int) = 74
 rotate_left
 ·rw [if_neg c2] at H
  have c2b0 : ((a0.size : Int) == 74) = false := beq_eq_false_iff_ne.mpr c2
  have c2b1 : ((a0.size : Int) != 74) = true := bne_iff_ne.mpr c2
  obtain rfl := Option.some.inj H
  go_enter Tryz.func57, Tryz.ntmps57
  go_wp2
  go_ret
  exact ⟨Qi, Qp⟩
 rw [if_pos c2] at H
 have c2b0 : ((a0.size : Int) == 74) = true := beq_iff_eq.mpr c2
 have c2b1 : ((a0.size : Int) != 74) = false := bne_eq_false_iff_eq.mpr c2
 clear c2
 have H' := ba_.mk H
 clear H
 go_enter Tryz.func57, Tryz.ntmps57
 go_wp2
 go_loopg [3] k (fun kq v3 w' => ∃ (x3_1 : Int), v3 = .int .i64 x3_1 ∧ ba_ (gb_.l0 kq a0 x3_1 = some r) ∧ ba_ (kq ≤ k) ∧ ja_ w w')
 case atStart => exact Yb
 case round =>
  clear H'
  try clear c2
  try clear c2b0
  try clear c2b1
  try clear p2
  obtain ⟨x3_1, rfl, HA, HK1, ⟨m1, rfl⟩⟩ := hrel
  cases gk with
  | zero => exact absurd HA.out (by simp [gb_.l0])
  | succ k1 =>
   have H := HA.out
   clear HA
   simp only [gb_.l0] at H
   by_cases c3 : x3_1 < (a0.size : Int)
   rotate_left
   ·exact Yu
   rw [if_pos c3] at H
   have c3b0 := decide_eq_true c3
   clear c3
   obtain ⟨c4, H⟩ := Qn H
   have c4b0 := decide_eq_true c4
   clear c4
   by_cases c6 : (bt a0 x3_1) = 48
   ·rw [if_pos c6] at H
    have c6b0 : ((bt a0 x3_1) == 48) = true := beq_iff_eq.mpr c6
    have c6b1 : ((bt a0 x3_1) != 48) = false := bne_eq_false_iff_eq.mpr c6
    clear c6
    have H' := ba_.mk H
    clear H
    have p5 : 0 ≤ (x3_1 : Int) := of_decide_eq_true Qg
    have q5 : x3_1 < (a0.size : Int) := of_decide_eq_true Qg
    have hx5 := ik_ a0 x3_1
    replace p5 := eq_true p5
    replace q5 := eq_true q5
    go_wp2
    go_roundg k1
    case measure => have := HK1.out; omega
    case rel => exact Ya
   rw [if_neg c6] at H
   have c6b0 : ((bt a0 x3_1) == 48) = false := beq_eq_false_iff_ne.mpr c6
   have c6b1 : ((bt a0 x3_1) != 48) = true := bne_iff_ne.mpr c6
   by_cases c8 : (bt a0 x3_1) = 49
   ·rw [if_pos c8] at H
    have c8b0 : ((bt a0 x3_1) == 49) = true := beq_iff_eq.mpr c8
    have c8b1 : ((bt a0 x3_1) != 49) = false := bne_eq_false_iff_eq.mpr c8
    clear c8
    have H' := ba_.mk H
    clear H
    have p5 : 0 ≤ (x3_1 : Int) := of_decide_eq_true Qg
    have q5 : x3_1 < (a0.size : Int) := of_decide_eq_true Qg
    have hx5 := ik_ a0 x3_1
    replace p5 := eq_true p5
    replace q5 := eq_true q5
    have p7 : 0 ≤ (x3_1 : Int) := of_decide_eq_true Qg
    have q7 : x3_1 < (a0.size : Int) := of_decide_eq_true Qg
    have hx7 := ik_ a0 x3_1
    replace p7 := eq_true p7
    replace q7 := eq_true q7
    go_wp2
    go_roundg k1
    case measure => have := HK1.out; omega
    case rel => exact Ya
   rw [if_neg c8] at H
   have c8b0 : ((bt a0 x3_1) == 49) = false := beq_eq_false_iff_ne.mpr c8
   have c8b1 : ((bt a0 x3_1) != 49) = true := bne_iff_ne.mpr c8
   by_cases c10 : (bt a0 x3_1) = 63
   rotate_left
   ·rw [if_neg c10] at H
    have c10b0 : ((bt a0 x3_1) == 63) = false := beq_eq_false_iff_ne.mpr c10
    have c10b1 : ((bt a0 x3_1) != 63) = true := bne_iff_ne.mpr c10
    obtain rfl := Option.some.inj H
    have p5 : 0 ≤ (x3_1 : Int) := of_decide_eq_true Qg
    have q5 : x3_1 < (a0.size : Int) := of_decide_eq_true Qg
    have hx5 := ik_ a0 x3_1
    replace p5 := eq_true p5
    replace q5 := eq_true q5
    have p7 : 0 ≤ (x3_1 : Int) := of_decide_eq_true Qg
    have q7 : x3_1 < (a0.size : Int) := of_decide_eq_true Qg
    have hx7 := ik_ a0 x3_1
    replace p7 := eq_true p7
    replace q7 := eq_true q7
    have p9 : 0 ≤ (x3_1 : Int) := of_decide_eq_true Qg
    have q9 : x3_1 < (a0.size : Int) := of_decide_eq_true Qg
    have hx9 := ik_ a0 x3_1
    replace p9 := eq_true p9
    replace q9 := eq_true q9
    go_wp2
    go_ret
    exact ⟨Qi, Qp⟩
   rw [if_pos c10] at H
   have c10b0 : ((bt a0 x3_1) == 63) = true := beq_iff_eq.mpr c10
   have c10b1 : ((bt a0 x3_1) != 63) = false := bne_eq_false_iff_eq.mpr c10
   clear c10
   have H' := ba_.mk H
   clear H
   have p5 : 0 ≤ (x3_1 : Int) := of_decide_eq_true Qg
   have q5 : x3_1 < (a0.size : Int) := of_decide_eq_true Qg
   have hx5 := ik_ a0 x3_1
   replace p5 := eq_true p5
   replace q5 := eq_true q5
   have p7 : 0 ≤ (x3_1 : Int) := of_decide_eq_true Qg
   have q7 : x3_1 < (a0.size : Int) := of_decide_eq_true Qg
   have hx7 := ik_ a0 x3_1
   replace p7 := eq_true p7
   replace q7 := eq_true q7
   have p9 : 0 ≤ (x3_1 : Int) := of_decide_eq_true Qg
   have q9 : x3_1 < (a0.size : Int) := of_decide_eq_true Qg
   have hx9 := ik_ a0 x3_1
   replace p9 := eq_true p9
   replace q9 := eq_true q9
   go_wp2
   go_roundg k1
   case measure => have := HK1.out; omega
   case rel => exact Ya
def la_.l0 : Nat → ByteArray → Int → Int → Int → Option (Int)
 | 0, _, _, _, _ => none
 | k + 1, x0, x1, x5, x6 => if x6 < (x0.size : Int) then (if 0 ≤ x6 then (if (bt x0 x6) = x1 then (la_.l0 k x0 x1 (wrap64 (x5 + 1)) (wrap64 (x6 + 1))) else (la_.l0 k x0 x1 x5 (wrap64 (x6 + 1)))) else (none)) else (some x5)
def la_.f (k : Nat) (a0 : ByteArray) (a1 : Int) : Option (Int) := la_.l0 k a0 a1 0 0
theorem la_.yc_ : ∀ k, (∀ y0 y1 y2 y3, LeO (la_.l0 k y0 y1 y2 y3) (la_.l0 (k + 1) y0 y1 y2 y3))
 | 0 => fun _ _ _ _ r h => by simp [la_.l0] at h
 | k + 1 => by
  have ih0 := la_.yc_ k
  intro y0 y1 y2 y3
  unfold la_.l0
  repeat' first
  | (with_reducible exact ih0 _ _ _ _)
  | (with_reducible first | exact LeO.refl _ | exact LeO.none _ | refine LeO.ite ?_ ?_ | refine LeO.bind ?_ (fun _ => ?_))
  | exact ih0 _ _ _ _
  | exact LeO.none _
  | refine LeO.ite ?_ ?_
  | refine LeO.bind ?_ (fun _ => ?_)
theorem la_.mono : ∀ a0 a1 k, LeO (la_.f k a0 a1) (la_.f (k + 1) a0 a1) := by
 intro a0 a1 k
 have ih0 := la_.yc_ k
 unfold la_.f
 repeat' first
   | (with_reducible exact ih0 _ _ _ _)
   | (with_reducible first | exact LeO.refl _ | exact LeO.none _ | refine LeO.ite ?_ ?_ | refine LeO.bind ?_ (fun _ => ?_))
   | exact ih0 _ _ _ _
   | exact LeO.none _
   | refine LeO.ite ?_ ?_
   | refine LeO.bind ?_ (fun _ => ?_)
set_option maxHeartbeats 8000000 in
set_option maxRecDepth 100000 in
theorem la_.calls (k : Nat) (a0 : ByteArray) (a1 : Int) (r : Int) (w : World) (h : la_.f k a0 a1 = some r) :
  Calls Tryz.prog 58 #[.string a0, .int .u8 a1] w fun e w' => e = .returned (.int .i64 r) ∧ ja_ w w' := by
 have H : (la_.l0 k a0 a1 0 0) = some r := h
 clear h
 have H' := ba_.mk H
 clear H
 go_enter Tryz.func58, Tryz.ntmps58
 go_wp2
 go_loopg [5, 6] k (fun kq v5 v6 w' => ∃ (x5_1 : Int) (x6_1 : Int), v5 = .int .i64 x5_1 ∧ v6 = .int .i64 x6_1 ∧ ba_ (la_.l0 kq a0 a1 x5_1 x6_1 = some r) ∧ ba_ (kq ≤ k) ∧ ja_ w w')
 case atStart => exact ⟨(0), (0), Qi, Qi, H', ⟨Nat.le_refl _⟩, Qp⟩
 case round =>
  clear H'
  try clear p2
  obtain ⟨x5_1, x6_1, rfl, rfl, HA, HK1, ⟨m1, rfl⟩⟩ := hrel
  cases gk with
  | zero => exact absurd HA.out (by simp [la_.l0])
  | succ k1 =>
   have H := HA.out
   clear HA
   simp only [la_.l0] at H
   by_cases c3 : x6_1 < (a0.size : Int)
   rotate_left
   ·exact Yu
   rw [if_pos c3] at H
   have c3b0 := decide_eq_true c3
   clear c3
   obtain ⟨c4, H⟩ := Qn H
   have c4b0 := decide_eq_true c4
   clear c4
   by_cases c6 : (bt a0 x6_1) = a1
   rotate_left
   ·rw [if_neg c6] at H
    have c6b0 : ((bt a0 x6_1) == a1) = false := beq_eq_false_iff_ne.mpr c6
    have c6b1 : ((bt a0 x6_1) != a1) = true := bne_iff_ne.mpr c6
    have H' := ba_.mk H
    clear H
    have p5 : 0 ≤ (x6_1 : Int) := of_decide_eq_true Qg
    have q5 : x6_1 < (a0.size : Int) := of_decide_eq_true Qg
    have hx5 := ik_ a0 x6_1
    replace p5 := eq_true p5
    replace q5 := eq_true q5
    go_wp2
    go_roundg k1
    case measure => have := HK1.out; omega
    case rel => exact ⟨(x5_1), (wrap64 (x6_1 + 1)), Qi, Qi, H', ⟨Qw⟩, Qp⟩
   rw [if_pos c6] at H
   have c6b0 : ((bt a0 x6_1) == a1) = true := beq_iff_eq.mpr c6
   have c6b1 : ((bt a0 x6_1) != a1) = false := bne_eq_false_iff_eq.mpr c6
   clear c6
   have H' := ba_.mk H
   clear H
   have p5 : 0 ≤ (x6_1 : Int) := of_decide_eq_true Qg
   have q5 : x6_1 < (a0.size : Int) := of_decide_eq_true Qg
   have hx5 := ik_ a0 x6_1
   replace p5 := eq_true p5
   replace q5 := eq_true q5
   go_wp2
   go_roundg k1
   case measure => have := HK1.out; omega
   case rel => exact ⟨(wrap64 (x5_1 + 1)), (wrap64 (x6_1 + 1)), Qi, Qi, H', ⟨Qw⟩, Qp⟩
def ib_.j0 : Nat → ByteArray → Bool → Option (ByteArray × Int)
 | 0, _, _ => none
 | k + 1, x0, x16 => if x16 = true then (some (x0, 0)) else (if 0 ≤ 7 then (if 7 ≤ (x0.size : Int) then ((la_.f k (x0.extract 0 7) 48).bind fun t260 => (if t260 ≥ 4 then (if 67 ≤ (x0.size : Int) then ((la_.f k (x0.extract 67 x0.size) 49).bind fun t261 => (if t261 ≥ 4 then ((jb_.f k x0).bind fun t262 => (some (t262, 0))) else (some ((⟨#[]⟩ : ByteArray), 26)))) else (none)) else (some ((⟨#[]⟩ : ByteArray), 26)))) else (none)) else (none))
def ib_.f (k : Nat) (a0 : ByteArray) : Option (ByteArray × Int) := (gb_.f k a0).bind fun t257 => (if t257 = true then (if 0 ≤ 7 then (if 7 ≤ (a0.size : Int) then ((la_.f k (a0.extract 0 7) 49).bind fun t258 => (if t258 ≥ 4 then (if 67 ≤ (a0.size : Int) then ((la_.f k (a0.extract 67 a0.size) 48).bind fun t259 => (ib_.j0 k a0 (decide (t259 ≥ 4)))) else (none)) else (ib_.j0 k a0 false))) else (none)) else (none)) else (some ((⟨#[]⟩ : ByteArray), 7)))
theorem ib_.yc_ : ∀ k, (∀ y0 y1, LeO (ib_.j0 k y0 y1) (ib_.j0 (k + 1) y0 y1))
 | 0 => fun _ _ r h => by simp [ib_.j0] at h
 | k + 1 => by
  have ih0 := ib_.yc_ k
  intro y0 y1
  unfold ib_.j0
  repeat' first
  | (with_reducible exact ih0 _ _)
  | (with_reducible exact jb_.mono _ _)
  | (with_reducible exact la_.mono _ _ _)
  | (with_reducible exact gb_.mono _ _)
  | (with_reducible first | exact LeO.refl _ | exact LeO.none _ | refine LeO.ite ?_ ?_ | refine LeO.bind ?_ (fun _ => ?_))
  | exact ih0 _ _
  | exact jb_.mono _ _
  | exact la_.mono _ _ _
  | exact gb_.mono _ _
  | exact LeO.none _
  | refine LeO.ite ?_ ?_
  | refine LeO.bind ?_ (fun _ => ?_)
theorem ib_.mono : ∀ a0 k, LeO (ib_.f k a0) (ib_.f (k + 1) a0) := by
 intro a0 k
 have ih0 := ib_.yc_ k
 unfold ib_.f
 repeat' first
   | (with_reducible exact ih0 _ _)
   | (with_reducible exact jb_.mono _ _)
   | (with_reducible exact la_.mono _ _ _)
   | (with_reducible exact gb_.mono _ _)
   | (with_reducible first | exact LeO.refl _ | exact LeO.none _ | refine LeO.ite ?_ ?_ | refine LeO.bind ?_ (fun _ => ?_))
   | exact ih0 _ _
   | exact jb_.mono _ _
   | exact la_.mono _ _ _
   | exact gb_.mono _ _
   | exact LeO.none _
   | refine LeO.ite ?_ ?_
   | refine LeO.bind ?_ (fun _ => ?_)
set_option maxHeartbeats 8000000 in
set_option maxRecDepth 100000 in
theorem ib_.calls (k : Nat) (a0 : ByteArray) (r1 : ByteArray) (r2 : Int) (w : World) (h : ib_.f k a0 = some (r1, r2)) :
  Calls Tryz.prog 26 #[.string a0] w fun e w' => e = .returned (.tuple #[.string r1, .int .i64 r2]) ∧ Below w.heap.size w w' := by
 have HB := ba_.mk (Below.refl w.heap.size w)
 have H : ((gb_.f k a0).bind fun t257 => (if t257 = true then (if 0 ≤ 7 then (if 7 ≤ (a0.size : Int) then ((la_.f k (a0.extract 0 7) 49).bind fun t258 => (if t258 ≥ 4 then (if 67 ≤ (a0.size : Int) then ((la_.f k (a0.extract 67 a0.size) 48).bind fun t259 => (ib_.j0 k a0 (decide (t259 ≥ 4)))) else (none)) else (ib_.j0 k a0 false))) else (none)) else (none)) else (some ((⟨#[]⟩ : ByteArray), 7)))) = some (r1, r2) := h
 clear h
 obtain ⟨t257, A2, H⟩ := Qk H
 try dsimp only at H
 by_cases c3 : t257 = true
 rotate_left
 ·replace c3 := Bool.eq_false_iff.mpr c3
  subst c3
  have H1 : (some ((⟨#[]⟩ : ByteArray), 7)) = some (r1, r2) := by rw [if_neg (show ¬ (false = true) by decide)] at H; exact H
  clear H
  have H := H1
  clear H1
  simp only [Option.some.injEq, Prod.mk.injEq] at H
  obtain ⟨rfl, rfl⟩ := H
  go_enter Tryz.func26, Tryz.ntmps26
  go_wp2_with (first | ((with_reducible refine ia_ (f := 57) rfl ?_); refine gc_ (some 5) rfl rfl Tryz.func57 Qb rfl #[.string a0] rfl Qj ?_; (with_reducible refine (gb_.calls k a0 false _ A2.out).mono ?_); rintro e w' ⟨rfl, ⟨nd, rfl⟩⟩; refine ⟨_, rfl, ?_⟩))
  go_ret2
  exact ⟨Qq, Qe⟩
 subst c3
 have H1 : (if 0 ≤ 7 then (if 7 ≤ (a0.size : Int) then ((la_.f k (a0.extract 0 7) 49).bind fun t258 => (if t258 ≥ 4 then (if 67 ≤ (a0.size : Int) then ((la_.f k (a0.extract 67 a0.size) 48).bind fun t259 => (ib_.j0 k a0 (decide (t259 ≥ 4)))) else (none)) else (ib_.j0 k a0 false))) else (none)) else (none)) = some (r1, r2) := by rw [if_pos rfl] at H; exact H
 clear H
 have H := H1
 clear H1
 have HC4 := ba_.mk H
 clear H
 go_enter Tryz.func26, Tryz.ntmps26
 go_upto_region 3 with (first | ((with_reducible refine ia_ (f := 57) rfl ?_); refine gc_ (some 5) rfl rfl Tryz.func57 Qb rfl #[.string a0] rfl Qj ?_; (with_reducible refine (gb_.calls k a0 true _ A2.out).mono ?_); rintro e w' ⟨rfl, ⟨nd, rfl⟩⟩; refine ⟨_, rfl, ?_⟩))
 (try simp only [Act.put, List.setIfInBounds_toArray, List.set_cons_zero, List.set_cons_succ])
 go_cut [16] (fun v16 wc => ∃ (kq : Nat) (x16_3 : Bool), v16 = .bool x16_3 ∧ ba_ (ib_.j0 kq a0 x16_3 = some (r1, r2)) ∧ ba_ (kq ≤ k) ∧ ba_ (Below w.heap.size w wc))
 case first =>
  have H := HC4.out
  clear HC4
  obtain ⟨c5, H⟩ := Qn H
  have c5b0 := eq_true c5
  have c5b1 := decide_eq_true c5
  clear c5
  obtain ⟨c6, H⟩ := Qn H
  have c6b0 := eq_true c6
  have c6b1 := decide_eq_true c6
  clear c6
  obtain ⟨t258, A7, H⟩ := Qk H
  try dsimp only at H
  by_cases c8 : t258 ≥ 4
  rotate_left
  ·rw [if_neg c8] at H
   have c8b0 : decide (4 ≤ t258) = false := decide_eq_false c8
   clear c8
   (first | rw [c8b0] | (simp only [yb_, ac_]; rw [c8b0]) | skip)
   have H' := ba_.mk H
   clear H
   go_wp2_with (first | ((with_reducible refine ia_ (f := 58) rfl ?_); refine gc_ (some 9) rfl rfl Tryz.func58 Qb rfl #[.string (a0.extract 0 7), .int .u8 49] rfl Qj ?_; (with_reducible refine (la_.calls k (a0.extract 0 7) 49 t258 _ A7.out).mono ?_); rintro e w' ⟨rfl, ⟨nd, rfl⟩⟩; refine ⟨_, rfl, ?_⟩))
   go_meet
   case rel => exact ⟨_, (false), Qi, H', ⟨Xf⟩, ⟨Qe⟩⟩
  rw [if_pos c8] at H
  have c8b0 : decide (4 ≤ t258) = true := decide_eq_true c8
  clear c8
  (first | rw [c8b0] | (simp only [yb_, ac_]; rw [c8b0]) | skip)
  obtain ⟨c9, H⟩ := Qn H
  have c9b0 := eq_true c9
  have c9b1 := decide_eq_true c9
  clear c9
  obtain ⟨t259, A10, H⟩ := Qk H
  try dsimp only at H
  have H' := ba_.mk H
  clear H
  go_wp2_with (first | ((with_reducible refine ia_ (f := 58) rfl ?_); refine gc_ (some 9) rfl rfl Tryz.func58 Qb rfl #[.string (a0.extract 0 7), .int .u8 49] rfl Qj ?_; (with_reducible refine (la_.calls k (a0.extract 0 7) 49 t258 _ A7.out).mono ?_); rintro e w' ⟨rfl, ⟨nd, rfl⟩⟩; refine ⟨_, rfl, ?_⟩) | (go_at_call 58; (with_reducible refine (la_.calls k (a0.extract 67 a0.size) 48 t259 _ A10.out).mono ?_); rintro e w' ⟨rfl, ⟨nd, rfl⟩⟩))
  go_meet
  case rel => exact ⟨_, (decide (t259 ≥ 4)), Qi, H', ⟨Xf⟩, ⟨Qe⟩⟩
 case rest =>
  clear HC4
  try clear c2
  try clear p2
  try clear c3
  try clear c5
  try clear c5b0
  try clear c5b1
  try clear c6
  try clear c6b0
  try clear c6b1
  try clear c8
  try clear c8b0
  try clear c9
  try clear c9b0
  try clear c9b1
  obtain ⟨kq, x16_3, rfl, HA, HJ3, HB⟩ := hcut
  cases kq with
  | zero => exact absurd HA.out (by simp [ib_.j0])
  | succ kj3 =>
   have H := HA.out
   clear HA
   simp only [ib_.j0] at H
   by_cases c11 : x16_3 = true
   ·subst c11
    have H1 : (some (a0, 0)) = some (r1, r2) := by rw [if_pos rfl] at H; exact H
    clear H
    have H := H1
    clear H1
    simp only [Option.some.injEq, Prod.mk.injEq] at H
    obtain ⟨rfl, rfl⟩ := H
    go_wp2
    go_ret2
    exact ⟨Qq, Qe⟩
   replace c11 := Bool.eq_false_iff.mpr c11
   subst c11
   have H1 : (if 0 ≤ 7 then (if 7 ≤ (a0.size : Int) then ((la_.f kj3 (a0.extract 0 7) 48).bind fun t260 => (if t260 ≥ 4 then (if 67 ≤ (a0.size : Int) then ((la_.f kj3 (a0.extract 67 a0.size) 49).bind fun t261 => (if t261 ≥ 4 then ((jb_.f kj3 a0).bind fun t262 => (some (t262, 0))) else (some ((⟨#[]⟩ : ByteArray), 26)))) else (none)) else (some ((⟨#[]⟩ : ByteArray), 26)))) else (none)) else (none)) = some (r1, r2) := by rw [if_neg (show ¬ (false = true) by decide)] at H; exact H
   clear H
   have H := H1
   clear H1
   obtain ⟨c12, H⟩ := Qn H
   have c12b0 := eq_true c12
   have c12b1 := decide_eq_true c12
   clear c12
   obtain ⟨c13, H⟩ := Qn H
   have c13b0 := eq_true c13
   have c13b1 := decide_eq_true c13
   clear c13
   obtain ⟨t260, A14, H⟩ := Qk H
   try dsimp only at H
   by_cases c15 : t260 ≥ 4
   rotate_left
   ·rw [if_neg c15] at H
    have c15b0 : decide (4 ≤ t260) = false := decide_eq_false c15
    clear c15
    simp only [Option.some.injEq, Prod.mk.injEq] at H
    obtain ⟨rfl, rfl⟩ := H
    go_wp2_with (first | ((with_reducible refine ia_ (f := 58) rfl ?_); refine gc_ (some 20) rfl rfl Tryz.func58 Qb rfl #[.string (a0.extract 0 7), .int .u8 48] rfl Qj ?_; (with_reducible refine (la_.calls kj3 (a0.extract 0 7) 48 t260 _ A14.out).mono ?_); rintro e w' ⟨rfl, ⟨nd, rfl⟩⟩; refine ⟨_, rfl, ?_⟩))
    go_ret2
    exact ⟨Qq, Qe⟩
   rw [if_pos c15] at H
   have c15b0 : decide (4 ≤ t260) = true := decide_eq_true c15
   clear c15
   obtain ⟨c16, H⟩ := Qn H
   have c16b0 := eq_true c16
   have c16b1 := decide_eq_true c16
   clear c16
   obtain ⟨t261, A17, H⟩ := Qk H
   try dsimp only at H
   by_cases c18 : t261 ≥ 4
   rotate_left
   ·rw [if_neg c18] at H
    have c18b0 : decide (4 ≤ t261) = false := decide_eq_false c18
    clear c18
    simp only [Option.some.injEq, Prod.mk.injEq] at H
    obtain ⟨rfl, rfl⟩ := H
    go_wp2_with (first | ((with_reducible refine ia_ (f := 58) rfl ?_); refine gc_ (some 20) rfl rfl Tryz.func58 Qb rfl #[.string (a0.extract 0 7), .int .u8 48] rfl Qj ?_; (with_reducible refine (la_.calls kj3 (a0.extract 0 7) 48 t260 _ A14.out).mono ?_); rintro e w' ⟨rfl, ⟨nd, rfl⟩⟩; refine ⟨_, rfl, ?_⟩) | (go_at_call 58; (with_reducible refine (la_.calls kj3 (a0.extract 67 a0.size) 49 t261 _ A17.out).mono ?_); rintro e w' ⟨rfl, ⟨nd, rfl⟩⟩))
    go_ret2
    exact ⟨Qq, Qe⟩
   rw [if_pos c18] at H
   have c18b0 : decide (4 ≤ t261) = true := decide_eq_true c18
   clear c18
   obtain ⟨t262, A19, H⟩ := Qk H
   try dsimp only at H
   simp only [Option.some.injEq, Prod.mk.injEq] at H
   obtain ⟨rfl, rfl⟩ := H
   go_wp2_with (first | ((with_reducible refine ia_ (f := 58) rfl ?_); refine gc_ (some 20) rfl rfl Tryz.func58 Qb rfl #[.string (a0.extract 0 7), .int .u8 48] rfl Qj ?_; (with_reducible refine (la_.calls kj3 (a0.extract 0 7) 48 t260 _ A14.out).mono ?_); rintro e w' ⟨rfl, ⟨nd, rfl⟩⟩; refine ⟨_, rfl, ?_⟩) | (go_at_call 58; (with_reducible refine (la_.calls kj3 (a0.extract 67 a0.size) 49 t261 _ A17.out).mono ?_); rintro e w' ⟨rfl, ⟨nd, rfl⟩⟩) | ((with_reducible refine ia_ (f := 21) rfl ?_); refine gc_ (some 29) rfl rfl Tryz.func21 Qb rfl #[.string a0] rfl Qj ?_; (with_reducible refine (jb_.calls kj3 a0 t262 _ A19.out).mono ?_); rintro e w20 ⟨rfl, hb⟩; refine ⟨_, rfl, ?_⟩; have n0_ := ba_.mk (wa_ Qe hb); clear HB; have HB := n0_; clear n0_; (try clear hb); (try clear hb2); (try clear hk); (try clear hi)))
   go_ret2
   exact ⟨Qq, Qe⟩
mutual
def xa_.l0 : Nat → ByteArray → List Int → Int → Option (List Int × Int)
 | 0, _, _, _ => none
 | k + 1, x0, x4, x5 => if x5 < 67 then (xa_.l1 k x0 x4 x5 0 x5) else (some (x4, 0))
def xa_.l1 : Nat → ByteArray → List Int → Int → Int → Int → Option (List Int × Int)
 | 0, _, _, _, _, _ => none
 | k + 1, x0, x4, x5, x6, x7 => if x7 < (wrap64 (x5 + 5)) then (if 0 ≤ x7 then (if x7 < (x0.size : Int) then (xa_.l1 k x0 x4 x5 (wrap64 ((wrap64 (2 * x6)) + (Go.bits .and .i64 (((bt x0 x7) - 48) % 256) 1))) (wrap64 (x7 + 1))) else (none)) else (none)) else (if 0 ≤ x5 then (if x5 ≤ (wrap64 (x5 + 5)) then (if (wrap64 (x5 + 5)) ≤ (x0.size : Int) then ((la_.f k (x0.extract (x5 : Int).toNat ((wrap64 (x5 + 5)) : Int).toNat) 63).bind fun t281 => (if t281 > 0 then (if x4.length < 17592186044416 then (xa_.l0 k x0 (x4 ++ [(-1)]) (wrap64 (x5 + 5))) else (none)) else (if x4.length < 17592186044416 then (xa_.l0 k x0 (x4 ++ [x6]) (wrap64 (x5 + 5))) else (none)))) else (none)) else (none)) else (none))
end
def xa_.f (k : Nat) (a0 : ByteArray) : Option (List Int × Int) := (gb_.f k a0).bind fun t280 => (if t280 = true then (xa_.l0 k a0 ([] : List Int) 7) else (some (([] : List Int), 7)))
theorem xa_.yc_ : ∀ k, (∀ y0 y1 y2, LeO (xa_.l0 k y0 y1 y2) (xa_.l0 (k + 1) y0 y1 y2)) ∧ (∀ y0 y1 y2 y3 y4, LeO (xa_.l1 k y0 y1 y2 y3 y4) (xa_.l1 (k + 1) y0 y1 y2 y3 y4))
 | 0 => ⟨fun _ _ _ r h => by simp [xa_.l0] at h, fun _ _ _ _ _ r h => by simp [xa_.l1] at h⟩
 | k + 1 => by
  obtain ⟨ih0, ih1⟩ := xa_.yc_ k
  refine ⟨?_, ?_⟩
  ·intro y0 y1 y2
   unfold xa_.l0
   repeat' first
   | (with_reducible exact ih0 _ _ _)
   | (with_reducible exact ih1 _ _ _ _ _)
   | (with_reducible exact la_.mono _ _ _)
   | (with_reducible exact gb_.mono _ _)
   | (with_reducible first | exact LeO.refl _ | exact LeO.none _ | refine LeO.ite ?_ ?_ | refine LeO.bind ?_ (fun _ => ?_))
   | exact ih0 _ _ _
   | exact ih1 _ _ _ _ _
   | exact la_.mono _ _ _
   | exact gb_.mono _ _
   | exact LeO.none _
   | refine LeO.ite ?_ ?_
   | refine LeO.bind ?_ (fun _ => ?_)
  intro y0 y1 y2 y3 y4
  unfold xa_.l1
  repeat' first
  | (with_reducible exact ih0 _ _ _)
  | (with_reducible exact ih1 _ _ _ _ _)
  | (with_reducible exact la_.mono _ _ _)
  | (with_reducible exact gb_.mono _ _)
  | (with_reducible first | exact LeO.refl _ | exact LeO.none _ | refine LeO.ite ?_ ?_ | refine LeO.bind ?_ (fun _ => ?_))
  | exact ih0 _ _ _
  | exact ih1 _ _ _ _ _
  | exact la_.mono _ _ _
  | exact gb_.mono _ _
  | exact LeO.none _
  | refine LeO.ite ?_ ?_
  | refine LeO.bind ?_ (fun _ => ?_)
theorem xa_.mono : ∀ a0 k, LeO (xa_.f k a0) (xa_.f (k + 1) a0) := by
 intro a0 k
 obtain ⟨ih0, ih1⟩ := xa_.yc_ k
 unfold xa_.f
 repeat' first
   | (with_reducible exact ih0 _ _ _)
   | (with_reducible exact ih1 _ _ _ _ _)
   | (with_reducible exact la_.mono _ _ _)
   | (with_reducible exact gb_.mono _ _)
   | (with_reducible first | exact LeO.refl _ | exact LeO.none _ | refine LeO.ite ?_ ?_ | refine LeO.bind ?_ (fun _ => ?_))
   | exact ih0 _ _ _
   | exact ih1 _ _ _ _ _
   | exact la_.mono _ _ _
   | exact gb_.mono _ _
   | exact LeO.none _
   | refine LeO.ite ?_ ?_
   | refine LeO.bind ?_ (fun _ => ?_)
set_option maxHeartbeats 8000000 in
set_option maxRecDepth 100000 in
theorem xa_.calls (k : Nat) (a0 : ByteArray) (r1 : List Int) (r2 : Int) (w : World) (h : xa_.f k a0 = some (r1, r2)) :
  Calls Tryz.prog 27 #[.string a0] w fun e w' => ∃ v0_ : Value, e = .returned (.tuple #[v0_, .int .i64 r2]) ∧ Kd.R (Kd.int .i64) 3 w' w.heap.size (fun _ => True) v0_ r1 ∧ Below w.heap.size w w' := by
 have HB := ba_.mk (Below.refl w.heap.size w)
 have H : ((gb_.f k a0).bind fun t280 => (if t280 = true then (xa_.l0 k a0 ([] : List Int) 7) else (some (([] : List Int), 7)))) = some (r1, r2) := h
 clear h
 obtain ⟨t280, A2, H⟩ := Qk H
 try dsimp only at H
 by_cases c3 : t280 = true
 rotate_left
 ·replace c3 := Bool.eq_false_iff.mpr c3
  subst c3
  have H1 : (some (([] : List Int), 7)) = some (r1, r2) := by rw [if_neg (show ¬ (false = true) by decide)] at H; exact H
  clear H
  have H := H1
  clear H1
  simp only [Option.some.injEq, Prod.mk.injEq] at H
  obtain ⟨rfl, rfl⟩ := H
  go_enter Tryz.func27, Tryz.ntmps27
  go_wp2_with (first | ((with_reducible refine ia_ (f := 57) rfl ?_); refine gc_ (some 9) rfl rfl Tryz.func57 Qb rfl #[.string a0] rfl Qj ?_; (with_reducible refine (gb_.calls k a0 false _ A2.out).mono ?_); rintro e w' ⟨rfl, ⟨nd, rfl⟩⟩; refine ⟨_, rfl, ?_⟩))
  go_ret2
  exact ⟨_, Qq, Q5, Qe⟩
 subst c3
 have H1 : (xa_.l0 k a0 ([] : List Int) 7) = some (r1, r2) := by rw [if_pos rfl] at H; exact H
 clear H
 have H := H1
 clear H1
 have H' := ba_.mk H
 clear H
 go_enter Tryz.func27, Tryz.ntmps27
 go_wp2_with (first | ((with_reducible refine ia_ (f := 57) rfl ?_); refine gc_ (some 9) rfl rfl Tryz.func57 Qb rfl #[.string a0] rfl Qj ?_; (with_reducible refine (gb_.calls k a0 true _ A2.out).mono ?_); rintro e w' ⟨rfl, ⟨nd, rfl⟩⟩; refine ⟨_, rfl, ?_⟩))
 go_loopg [4, 5] k (fun kq v4 v5 w' => ∃ (x4_1 : List Int) (x5_1 : Int), v5 = .int .i64 x5_1 ∧ ba_ (xa_.l0 kq a0 x4_1 x5_1 = some (r1, r2)) ∧ ba_ (kq ≤ k) ∧ ba_ (Kd.R (Kd.int .i64) 3 w' w.heap.size (fun _ => True) v4 x4_1) ∧ ba_ (Below w.heap.size w w'))
 case atStart => exact ⟨(([] : List Int)), (7), Qi, H', ⟨Nat.le_refl _⟩, ⟨Q5⟩, ⟨Qe⟩⟩
 case round =>
  clear H'
  try clear c2
  try clear p2
  try clear c3
  obtain ⟨x4_1, x5_1, rfl, HA, HK1, HO_4, HB⟩ := hrel
  cases gk with
  | zero => exact absurd HA.out (by simp [xa_.l0])
  | succ k1 =>
   have H := HA.out
   clear HA
   simp only [xa_.l0] at H
   by_cases c4 : x5_1 < 67
   rotate_left
   ·rw [if_neg c4] at H
    have c4b0 := decide_eq_false c4
    clear c4
    simp only [Option.some.injEq, Prod.mk.injEq] at H
    obtain ⟨rfl, rfl⟩ := H
    go_wp2
    go_ret2
    exact ⟨_, Qq, Yk, Qe⟩
   rw [if_pos c4] at H
   have c4b0 := decide_eq_true c4
   clear c4
   have H' := ba_.mk H
   clear H
   go_wp2
   go_loopg [6, 7] k1 (fun kq v6 v7 w' => ∃ (x6_2 : Int) (x7_2 : Int), v6 = .int .i64 x6_2 ∧ v7 = .int .i64 x7_2 ∧ ba_ (xa_.l1 kq a0 x4_1 x5_1 x6_2 x7_2 = some (r1, r2)) ∧ ba_ (kq ≤ k1) ∧ ba_ (Kd.R (Kd.int .i64) 3 w' w.heap.size (fun _ => True) u4 x4_1) ∧ ba_ (Below w.heap.size w w'))
   case atStart => exact ⟨(0), (x5_1), Qi, Qi, H', ⟨Nat.le_refl _⟩, ⟨Yk⟩, ⟨Qe⟩⟩
   case round =>
    clear H'
    try clear c2
    try clear p2
    try clear c3
    try clear c4
    try clear c4b0
    try clear p2
    obtain ⟨x6_2, x7_2, rfl, rfl, HA, HK2, HO_4, HB⟩ := hrel
    cases gk with
    | zero => exact absurd HA.out (by simp [xa_.l1])
    | succ k2 =>
     have H := HA.out
     clear HA
     simp only [xa_.l1] at H
     by_cases c5 : x7_2 < (wrap64 (x5_1 + 5))
     ·rw [if_pos c5] at H
      have c5b0 := decide_eq_true c5
      clear c5
      obtain ⟨c6, H⟩ := Qn H
      have c6b0 := decide_eq_true c6
      clear c6
      obtain ⟨c7, H⟩ := Qn H
      have c7b0 := decide_eq_true c7
      clear c7
      have H' := ba_.mk H
      clear H
      have p8 : 0 ≤ (x7_2 : Int) := of_decide_eq_true Qg
      have q8 : x7_2 < (a0.size : Int) := of_decide_eq_true Qg
      have hx8 := ik_ a0 x7_2
      replace p8 := eq_true p8
      replace q8 := eq_true q8
      go_wp2
      go_roundg k2
      case measure => exact Xi
      case rel => exact ⟨(wrap64 ((wrap64 (2 * x6_2)) + (Go.bits .and .i64 (((bt a0 x7_2) - 48) % 256) 1))), (wrap64 (x7_2 + 1)), Qi, Qi, H', ⟨Xj⟩, ⟨Yk⟩, ⟨Qe⟩⟩
     rw [if_neg c5] at H
     have c5b0 := decide_eq_false c5
     clear c5
     obtain ⟨c9, H⟩ := Qn H
     have c9b0 := eq_true c9
     have c9b1 := decide_eq_true c9
     clear c9
     obtain ⟨c10, H⟩ := Qn H
     have c10b0 := eq_true c10
     have c10b1 := decide_eq_true c10
     obtain ⟨c11, H⟩ := Qn H
     have c11b0 := eq_true c11
     have c11b1 := decide_eq_true c11
     obtain ⟨t281, A12, H⟩ := Qk H
     try dsimp only at H
     by_cases c13 : t281 > 0
     ·rw [if_pos c13] at H
      have c13b0 : decide (0 < t281) = true := decide_eq_true c13
      clear c13
      obtain ⟨c14, H⟩ := Qn H
      have LMc14 := ba_.mk c14
      clear c14
      obtain ⟨y282, hy282⟩ : ∃ y_ : List Int, y_ = (x4_1 ++ [(-1)]) := ⟨_, rfl⟩
      replace H : (xa_.l0 k2 a0 y282 (wrap64 (x5_1 + 5))) = some (r1, r2) := by first | (rw [hy282]; with_reducible exact H) | (have H2_ := (Option.bind_some _ _).symm.trans H; rw [hy282]; with_reducible exact H2_) | (have H2_ := (Option.bind_some _ _).symm.trans H; with_reducible exact H2_) | with_reducible exact H | (rw [hy282]; exact H) | exact H
      have Ny282 := ba_.mk hy282
      clear hy282
      have H' := ba_.mk H
      clear H
      go_wp2_with (first | ((with_reducible refine ia_ (f := 58) rfl ?_); refine gc_ (some 36) rfl rfl Tryz.func58 Qb rfl #[.string (a0.extract (x5_1 : Int).toNat ((wrap64 (x5_1 + 5)) : Int).toNat), .int .u8 63] rfl Qj ?_; (with_reducible refine (la_.calls k2 (a0.extract (x5_1 : Int).toNat ((wrap64 (x5_1 + 5)) : Int).toNat) 63 t281 _ A12.out).mono ?_); rintro e w' ⟨rfl, ⟨nd, rfl⟩⟩; refine ⟨_, rfl, ?_⟩) | ((with_reducible refine xd_ (b := .append) (xs := #[.tmp 38, .tmp 40]) rfl ?_); at_builtin; refine Kd.qf_ (Kd.int .i64) (w0 := w) w.heap.size rfl (.tmp 38) (.tmp 40) 22 3 (.int .i64 0) 8 rfl Tryz.underlying22 gi_ rfl Qh Qa u4 x4_1 (-1) [.int .i64 (-1)] (fun _ => True) (fun _ => False) rfl rfl ?aP (fun _ hk => hk.elim) ?aF ?aO ?aB ?aS ?aL ?_; (case aP => exact rfl); (case aB => exact Q3); (case aF => exact Xc); (case aO => exact (Ql HO_4.out)); (case aS => exact Q4); (case aL => have := LMc14.out; omega); intro v283 w15 ho hb hg hat; rw [← Ny282.out] at ho; have n0_ := ba_.mk (hb); have n1_ := ba_.mk (ho); clear HB; clear HO_4; have HB := n0_; have HO284 := n1_; clear n0_ n1_; clear ho hb hg hat))
      go_roundg k2
      case measure => exact Xi
      case rel => exact ⟨(y282), (wrap64 (x5_1 + 5)), Qi, H', ⟨Xj⟩, ⟨by (with_reducible repeat (first | apply Kd.eb_ | apply Kd.fb_ | apply Kd.rb_)); exact HO284.out⟩, ⟨Qe⟩⟩
     rw [if_neg c13] at H
     have c13b0 : decide (0 < t281) = false := decide_eq_false c13
     clear c13
     obtain ⟨c16, H⟩ := Qn H
     have LMc16 := ba_.mk c16
     clear c16
     obtain ⟨y285, hy285⟩ : ∃ y_ : List Int, y_ = (x4_1 ++ [x6_2]) := ⟨_, rfl⟩
     replace H : (xa_.l0 k2 a0 y285 (wrap64 (x5_1 + 5))) = some (r1, r2) := by first | (rw [hy285]; with_reducible exact H) | (have H2_ := (Option.bind_some _ _).symm.trans H; rw [hy285]; with_reducible exact H2_) | (have H2_ := (Option.bind_some _ _).symm.trans H; with_reducible exact H2_) | with_reducible exact H | (rw [hy285]; exact H) | exact H
     have Ny285 := ba_.mk hy285
     clear hy285
     have H' := ba_.mk H
     clear H
     go_wp2_with (first | ((with_reducible refine ia_ (f := 58) rfl ?_); refine gc_ (some 36) rfl rfl Tryz.func58 Qb rfl #[.string (a0.extract (x5_1 : Int).toNat ((wrap64 (x5_1 + 5)) : Int).toNat), .int .u8 63] rfl Qj ?_; (with_reducible refine (la_.calls k2 (a0.extract (x5_1 : Int).toNat ((wrap64 (x5_1 + 5)) : Int).toNat) 63 t281 _ A12.out).mono ?_); rintro e w' ⟨rfl, ⟨nd, rfl⟩⟩; refine ⟨_, rfl, ?_⟩) | ((with_reducible refine xd_ (b := .append) (xs := #[.tmp 38, .tmp 40]) rfl ?_); at_builtin; refine Kd.qf_ (Kd.int .i64) (w0 := w) w.heap.size rfl (.tmp 38) (.tmp 40) 22 3 (.int .i64 0) 8 rfl Tryz.underlying22 gi_ rfl Qh Qa u4 x4_1 x6_2 [.int .i64 x6_2] (fun _ => True) (fun _ => False) rfl rfl ?aP (fun _ hk => hk.elim) ?aF ?aO ?aB ?aS ?aL ?_; (case aP => exact rfl); (case aB => exact Q3); (case aF => exact Xc); (case aO => exact (Ql HO_4.out)); (case aS => exact Q4); (case aL => have := LMc16.out; omega); intro v286 w17 ho hb hg hat; rw [← Ny285.out] at ho; have n0_ := ba_.mk (hb); have n1_ := ba_.mk (ho); clear HB; clear HO_4; have HB := n0_; have HO287 := n1_; clear n0_ n1_; clear ho hb hg hat))
     go_roundg k2
     case measure => exact Xi
     case rel => exact ⟨(y285), (wrap64 (x5_1 + 5)), Qi, H', ⟨Xj⟩, ⟨by (with_reducible repeat (first | apply Kd.eb_ | apply Kd.fb_ | apply Kd.rb_)); exact HO287.out⟩, ⟨Qe⟩⟩
def kc_.f (k : Nat) (a0 : ByteArray) : Option (Int × Int × Int × Int × Int × Int) := (ib_.f k a0).bind fun bt313 => (if bt313.2 = 0 then ((xa_.f k bt313.1).bind fun bt315 => ((tp_.f bt315.1).bind fun bt319 => (if bt319.2.2 = 0 then (if 0 < (bt319.1.length : Int) then (if 1 < (bt319.1.length : Int) then (if 2 < (bt319.1.length : Int) then (if 3 < (bt319.1.length : Int) then (if 4 < (bt319.1.length : Int) then (if 5 < (bt319.1.length : Int) then ((dd_.f (rd bt319.1 0) (wrap64 ((wrap64 ((wrap64 (1024 * (rd bt319.1 1))) + (wrap64 (32 * (rd bt319.1 2))))) + (rd bt319.1 3))) (rd bt319.1 4) (rd bt319.1 5)).bind fun t331 => (if t331 = true then (some (rd bt319.1 0, wrap64 ((wrap64 ((wrap64 (1024 * (rd bt319.1 1))) + (wrap64 (32 * (rd bt319.1 2))))) + (rd bt319.1 3)), rd bt319.1 4, rd bt319.1 5, bt319.2.1, 0)) else (some (0, 0, 0, 0, 0, 2)))) else (none)) else (none)) else (none)) else (none)) else (none)) else (none)) else (some (0, 0, 0, 0, 0, bt319.2.2))))) else (some (0, 0, 0, 0, 0, bt313.2)))
theorem kc_.mono : ∀ a0 k, LeO (kc_.f k a0) (kc_.f (k + 1) a0) := by
 intro a0 k
 unfold kc_.f
 repeat' first
   | (with_reducible exact ib_.mono _ _)
   | (with_reducible exact xa_.mono _ _)
   | (with_reducible first | exact LeO.refl _ | exact LeO.none _ | refine LeO.ite ?_ ?_ | refine LeO.bind ?_ (fun _ => ?_))
   | exact ib_.mono _ _
   | exact xa_.mono _ _
   | exact LeO.none _
   | refine LeO.ite ?_ ?_
   | refine LeO.bind ?_ (fun _ => ?_)
def kc_.T8 : Bool × List (List Nat × List Nat) := (true, [([], []), ([0], [0]), ([1], [1]), ([], []), ([3], [3]), ([4], [4]), ([5], [5]), ([], []), ([7], [7]), ([8], [8]), ([9], [9]), ([6, 10], [6, 10]), ([], []), ([12], [12]), ([13], [13]), ([11, 14], [11, 14]), ([], []), ([16], [16]), ([17], [17]), ([], []), ([19], [19]), ([20], [20]), ([2, 15, 18, 21], [2, 15, 18, 21]), ([], []), ([23, 22, 0, 1, 2, 3, 4, 5, 6, 7, 8, 9, 10, 11, 12, 13, 14, 15, 16, 17, 18, 19, 20, 21, 22, 23], [22, 23])])
def kc_.B8 : List Nat := [0, 1, 3, 0, 8, 24, 56, 0, 128, 384, 896, 2040, 0, 4096, 12288, 32760, 0, 65536, 196608, 0, 524288, 1572864, 4194303, 0, 16777215]
theorem kc_.tab8 : rtab .any (opsOf Tryz.f29 8) = kc_.T8 := by kernel_rfl
theorem kc_.kv_ : vg_ kc_.T8.2 kc_.B8 = true := by kernel_rfl
set_option maxHeartbeats 8000000 in
set_option maxRecDepth 100000 in
theorem kc_.calls (k : Nat) (a0 : ByteArray) (r1 : Int) (r2 : Int) (r3 : Int) (r4 : Int) (r5 : Int) (r6 : Int) (w : World) (h : kc_.f k a0 = some (r1, r2, r3, r4, r5, r6)) :
  Calls Tryz.prog 29 #[.string a0] w fun e w' => e = .returned (.tuple #[.agg #[.int .i64 r1, .int .i64 r2, .int .i64 r3, .int .i64 r4], .int .i64 r5, .int .i64 r6]) ∧ Below w.heap.size w w' := by
 have hu38 := Tryz.underlying38
 have HB := ba_.mk (Below.refl w.heap.size w)
 have H : ((ib_.f k a0).bind fun bt313 => (if bt313.2 = 0 then ((xa_.f k bt313.1).bind fun bt315 => ((tp_.f bt315.1).bind fun bt319 => (if bt319.2.2 = 0 then (if 0 < (bt319.1.length : Int) then (if 1 < (bt319.1.length : Int) then (if 2 < (bt319.1.length : Int) then (if 3 < (bt319.1.length : Int) then (if 4 < (bt319.1.length : Int) then (if 5 < (bt319.1.length : Int) then ((dd_.f (rd bt319.1 0) (wrap64 ((wrap64 ((wrap64 (1024 * (rd bt319.1 1))) + (wrap64 (32 * (rd bt319.1 2))))) + (rd bt319.1 3))) (rd bt319.1 4) (rd bt319.1 5)).bind fun t331 => (if t331 = true then (some (rd bt319.1 0, wrap64 ((wrap64 ((wrap64 (1024 * (rd bt319.1 1))) + (wrap64 (32 * (rd bt319.1 2))))) + (rd bt319.1 3)), rd bt319.1 4, rd bt319.1 5, bt319.2.1, 0)) else (some (0, 0, 0, 0, 0, 2)))) else (none)) else (none)) else (none)) else (none)) else (none)) else (none)) else (some (0, 0, 0, 0, 0, bt319.2.2))))) else (some (0, 0, 0, 0, 0, bt313.2)))) = some (r1, r2, r3, r4, r5, r6) := h
 clear h
 obtain ⟨⟨t313, t314⟩, A2, H⟩ := Qk H
 try dsimp only at H
 by_cases c3 : t314 = 0
 rotate_left
 ·rw [if_neg c3] at H
  have c3b0 : (t314 == 0) = false := beq_eq_false_iff_ne.mpr c3
  have c3b1 : (t314 != 0) = true := bne_iff_ne.mpr c3
  simp only [Option.some.injEq, Prod.mk.injEq] at H
  obtain ⟨rfl, rfl, rfl, rfl, rfl, rfl⟩ := H
  go_enter Tryz.func29, Tryz.ntmps29
  go_wp2_with (first | ((with_reducible refine md_ (N := 2) rfl ?_); refine fe_ ?hg (N := 2) ?hd (cs := #[.int .i64 0, .int .i64 0, .int .i64 0, .int .i64 0]) (t := 38) ?hr ?_; (case hd => rfl); (case hg => rfl); (case hr => exact Qt); intro gb312 hg w54 hbox hb; have n0_ := ba_.mk (wa_ Qe hb); have n1_ := ba_.mk (hbox); have n2_ := ba_.mk ((by rw [hg]; exact (za_ Qe) : w.heap.size ≤ gb312)); have n3_ := ba_.mk ((by rw [hg]; exact (za_ Qe) : w.heap.size ≤ gb312)); clear HB; have HB := n0_; have BK312 := n1_; have GW312 := n2_; have GE312 := n3_; clear n0_ n1_ n2_ n3_; clear hb hbox hg) | ((with_reducible refine ia_ (f := 26) rfl ?_); refine gc_ (some 15) rfl rfl Tryz.func26 Qb rfl #[.string a0] rfl Qj ?_; (with_reducible refine (ib_.calls k a0 t313 t314 _ A2.out).mono ?_); rintro e w55 ⟨rfl, hb⟩; refine ⟨_, rfl, ?_⟩; have n0_ := ba_.mk (ed_ (g := gb312) (o := .cells #[.int .i64 0, .int .i64 0, .int .i64 0, .int .i64 0] 38 (0, 0)) (Qr BK312.out) hb); have n1_ := ba_.mk (wa_ Q1 hb); clear BK312; clear HB; have BK312 := n0_; have HB := n1_; clear n0_ n1_; (try clear hb); (try clear hb2); (try clear hk); (try clear hi); have hcz56_0 : w55.cell? ⟨gb312, 0, none⟩ = some (.int .i64 0) := (mb_ BK312.out 0).trans rfl; have hcz56_1 : w55.cell? ⟨gb312, 1, none⟩ = some (.int .i64 0) := (mb_ BK312.out 1).trans rfl; have hcz56_2 : w55.cell? ⟨gb312, 2, none⟩ = some (.int .i64 0) := (mb_ BK312.out 2).trans rfl; have hcz56_3 : w55.cell? ⟨gb312, 3, none⟩ = some (.int .i64 0) := (mb_ BK312.out 3).trans rfl; have hfz56_0 := qa_ BK312.out 0; have hfz56_1 := qa_ BK312.out 1; have hfz56_2 := qa_ BK312.out 2; have hfz56_3 := qa_ BK312.out 3))
  refine bodyPost_ret (jg_ rfl _ _ gb312 38 #[.int .i64 0, .int .i64 0, .int .i64 0, .int .i64 0] (0, 0) _ rfl (by (with_reducible repeat (first | refine db_ ?_ _ | refine pb_ ?_ | refine cb_ ?_ _)); refine od_ (cs := #[.int .i64 0, .int .i64 0, .int .i64 0, .int .i64 0]) ?_ 3 _ rfl; (with_reducible repeat (first | refine db_ ?_ _ | refine pb_ ?_ | refine cb_ ?_ _)); refine od_ (cs := #[.int .i64 0, .int .i64 0, .int .i64 0, .int .i64 0]) ?_ 2 _ rfl; (with_reducible repeat (first | refine db_ ?_ _ | refine pb_ ?_ | refine cb_ ?_ _)); refine od_ (cs := #[.int .i64 0, .int .i64 0, .int .i64 0, .int .i64 0]) ?_ 1 _ rfl; (with_reducible repeat (first | refine db_ ?_ _ | refine pb_ ?_ | refine cb_ ?_ _)); refine od_ (cs := #[.int .i64 0, .int .i64 0, .int .i64 0, .int .i64 0]) ?_ 0 _ rfl; (with_reducible repeat (first | refine db_ ?_ _ | refine pb_ ?_ | refine cb_ ?_ _)); exact BK312.out) Tryz.underlying38 rfl Qb) rfl ?_
  exact ⟨Qq, Q1⟩
 rw [if_pos c3] at H
 have c3b0 : (t314 == 0) = true := beq_iff_eq.mpr c3
 have c3b1 : (t314 != 0) = false := bne_eq_false_iff_eq.mpr c3
 clear c3
 obtain ⟨⟨t315, t316⟩, A4, H⟩ := Qk H
 try dsimp only at H
 obtain ⟨⟨t319, t320, t321⟩, A5, H⟩ := Qk H
 try dsimp only at H
 by_cases c6 : t321 = 0
 rotate_left
 ·rw [if_neg c6] at H
  have c6b0 : (t321 == 0) = false := beq_eq_false_iff_ne.mpr c6
  have c6b1 : (t321 != 0) = true := bne_iff_ne.mpr c6
  simp only [Option.some.injEq, Prod.mk.injEq] at H
  obtain ⟨rfl, rfl, rfl, rfl, rfl, rfl⟩ := H
  go_enter Tryz.func29, Tryz.ntmps29
  go_wp2_with (first | ((with_reducible refine md_ (N := 2) rfl ?_); refine fe_ ?hg (N := 2) ?hd (cs := #[.int .i64 0, .int .i64 0, .int .i64 0, .int .i64 0]) (t := 38) ?hr ?_; (case hd => rfl); (case hg => rfl); (case hr => exact Qt); intro gb312 hg w48 hbox hb; have n0_ := ba_.mk (wa_ Qe hb); have n1_ := ba_.mk (hbox); have n2_ := ba_.mk ((by rw [hg]; exact (za_ Qe) : w.heap.size ≤ gb312)); have n3_ := ba_.mk ((by rw [hg]; exact (za_ Qe) : w.heap.size ≤ gb312)); clear HB; have HB := n0_; have BK312 := n1_; have GW312 := n2_; have GE312 := n3_; clear n0_ n1_ n2_ n3_; clear hb hbox hg) | ((with_reducible refine ia_ (f := 26) rfl ?_); refine gc_ (some 15) rfl rfl Tryz.func26 Qb rfl #[.string a0] rfl Qj ?_; (with_reducible refine (ib_.calls k a0 t313 t314 _ A2.out).mono ?_); rintro e w49 ⟨rfl, hb⟩; refine ⟨_, rfl, ?_⟩; have n0_ := ba_.mk (ed_ (g := gb312) (o := .cells #[.int .i64 0, .int .i64 0, .int .i64 0, .int .i64 0] 38 (0, 0)) (Qr BK312.out) hb); have n1_ := ba_.mk (wa_ Q1 hb); clear BK312; clear HB; have BK312 := n0_; have HB := n1_; clear n0_ n1_; (try clear hb); (try clear hb2); (try clear hk); (try clear hi)) | ((with_reducible refine ia_ (f := 27) rfl ?_); refine gc_ (some 24) rfl rfl Tryz.func27 Qb rfl #[.string t313] rfl Qj ?_; (with_reducible refine (xa_.calls k t313 t315 t316 _ A4.out).mono ?_); rintro e w50 ⟨v317, rfl, ho0, hb⟩; refine ⟨_, rfl, ?_⟩; have n0_ := ba_.mk (Kd.td_ ho0 (za_ Q1)); have n1_ := ba_.mk (ed_ (g := gb312) (o := .cells #[.int .i64 0, .int .i64 0, .int .i64 0, .int .i64 0] 38 (0, 0)) (Qr BK312.out) hb); have n2_ := ba_.mk (wa_ Q1 hb); clear BK312; clear HB; have HO318 := n0_; have BK312 := n1_; have HB := n2_; clear n0_ n1_ n2_; (try clear hb); (try clear hb2); (try clear hk); (try clear hi); (try clear ho0); obtain ⟨Ao51, co51, eo51⟩ := Kd.pd_ HO318.out; subst eo51) | ((with_reducible refine ia_ (f := 59) rfl ?_); refine gc_ (some 29) rfl rfl Tryz.func59 Qb rfl #[.slice Ao51 t315.length co51] rfl Qj ?_; (with_reducible refine (tp_.calls _ _ t315 t319 t320 t321 _ ?side1 ?side2 A5.out).mono ?_); (case side1 => repeat (first | exact (Kd.cc_ HO318.out).2.2 | (with_reducible refine Kd.gd_ ?_ _) | (with_reducible refine Kd.hd_ ?_ _) | (with_reducible refine Kd.yd_ ?_))); (case side2 => exact (Kd.cc_ HO318.out).2.1); rintro e w52 ⟨v322, rfl, ho0, hb⟩; refine ⟨_, rfl, ?_⟩; have n0_ := ba_.mk (Kd.ke_ (Ql HO318.out) (Kd.if_ ho0) hb); have n1_ := ba_.mk (Kd.td_ (Kd.hf_ ho0 (Kd.R_lt (Ql HO318.out))) (za_ Q1)); have n2_ := ba_.mk (ed_ (g := gb312) (o := .cells #[.int .i64 0, .int .i64 0, .int .i64 0, .int .i64 0] 38 (0, 0)) (Qr BK312.out) hb); have n3_ := ba_.mk (wa_ Q1 hb); clear HO318; clear BK312; clear HB; have HO318 := n0_; have HO323 := n1_; have BK312 := n2_; have HB := n3_; clear n0_ n1_ n2_ n3_; (try clear hb); (try clear hb2); (try clear hk); (try clear hi); (try clear ho0); have hcz53_0 : w52.cell? ⟨gb312, 0, none⟩ = some (.int .i64 0) := (mb_ BK312.out 0).trans rfl; have hcz53_1 : w52.cell? ⟨gb312, 1, none⟩ = some (.int .i64 0) := (mb_ BK312.out 1).trans rfl; have hcz53_2 : w52.cell? ⟨gb312, 2, none⟩ = some (.int .i64 0) := (mb_ BK312.out 2).trans rfl; have hcz53_3 : w52.cell? ⟨gb312, 3, none⟩ = some (.int .i64 0) := (mb_ BK312.out 3).trans rfl; have hfz53_0 := qa_ BK312.out 0; have hfz53_1 := qa_ BK312.out 1; have hfz53_2 := qa_ BK312.out 2; have hfz53_3 := qa_ BK312.out 3))
  refine bodyPost_ret (jg_ rfl _ _ gb312 38 #[.int .i64 0, .int .i64 0, .int .i64 0, .int .i64 0] (0, 0) _ rfl (by (with_reducible repeat (first | refine db_ ?_ _ | refine pb_ ?_ | refine cb_ ?_ _)); refine od_ (cs := #[.int .i64 0, .int .i64 0, .int .i64 0, .int .i64 0]) ?_ 3 _ rfl; (with_reducible repeat (first | refine db_ ?_ _ | refine pb_ ?_ | refine cb_ ?_ _)); refine od_ (cs := #[.int .i64 0, .int .i64 0, .int .i64 0, .int .i64 0]) ?_ 2 _ rfl; (with_reducible repeat (first | refine db_ ?_ _ | refine pb_ ?_ | refine cb_ ?_ _)); refine od_ (cs := #[.int .i64 0, .int .i64 0, .int .i64 0, .int .i64 0]) ?_ 1 _ rfl; (with_reducible repeat (first | refine db_ ?_ _ | refine pb_ ?_ | refine cb_ ?_ _)); refine od_ (cs := #[.int .i64 0, .int .i64 0, .int .i64 0, .int .i64 0]) ?_ 0 _ rfl; (with_reducible repeat (first | refine db_ ?_ _ | refine pb_ ?_ | refine cb_ ?_ _)); exact BK312.out) Tryz.underlying38 rfl Qb) rfl ?_
  exact ⟨Qq, Q1⟩
 rw [if_pos c6] at H
 have c6b0 : (t321 == 0) = true := beq_iff_eq.mpr c6
 have c6b1 : (t321 != 0) = false := bne_eq_false_iff_eq.mpr c6
 clear c6
 obtain ⟨c7, H⟩ := Qn H
 have c7b0 := decide_eq_true c7
 have c7b1 : decide (0 < t319.length) = true := decide_eq_true Qa
 clear c7
 obtain ⟨c8, H⟩ := Qn H
 have c8b0 := decide_eq_true c8
 have c8b1 : decide (1 < t319.length) = true := decide_eq_true Qa
 clear c8
 obtain ⟨c9, H⟩ := Qn H
 have c9b0 := decide_eq_true c9
 have c9b1 : decide (2 < t319.length) = true := decide_eq_true Qa
 clear c9
 obtain ⟨c10, H⟩ := Qn H
 have c10b0 := decide_eq_true c10
 have c10b1 : decide (3 < t319.length) = true := decide_eq_true Qa
 clear c10
 obtain ⟨c11, H⟩ := Qn H
 have c11b0 := decide_eq_true c11
 have c11b1 : decide (4 < t319.length) = true := decide_eq_true Qa
 clear c11
 obtain ⟨c12, H⟩ := Qn H
 have c12b0 := decide_eq_true c12
 have c12b1 : decide (5 < t319.length) = true := decide_eq_true Qa
 clear c12
 obtain ⟨t331, A13, H⟩ := Qk H
 try dsimp only at H
 by_cases c14 : t331 = true
 ·subst c14
  have H1 : (some (rd t319 0, wrap64 ((wrap64 ((wrap64 (1024 * (rd t319 1))) + (wrap64 (32 * (rd t319 2))))) + (rd t319 3)), rd t319 4, rd t319 5, t320, 0)) = some (r1, r2, r3, r4, r5, r6) := by rw [if_pos rfl] at H; exact H
  clear H
  have H := H1
  clear H1
  simp only [Option.some.injEq, Prod.mk.injEq] at H
  obtain ⟨rfl, rfl, rfl, rfl, rfl, rfl⟩ := H
  go_enter Tryz.func29, Tryz.ntmps29
  try go_wp2_with (first | ((with_reducible refine md_ (N := 2) rfl ?_); refine fe_ ?hg (N := 2) ?hd (cs := #[.int .i64 0, .int .i64 0, .int .i64 0, .int .i64 0]) (t := 38) ?hr ?_; (case hd => rfl); (case hg => rfl); (case hr => exact Qt); intro gb312 hg w15 hbox hb; have n0_ := ba_.mk (wa_ Qe hb); have n1_ := ba_.mk (hbox); have n2_ := ba_.mk ((by rw [hg]; exact (za_ Qe) : w.heap.size ≤ gb312)); have n3_ := ba_.mk ((by rw [hg]; exact (za_ Qe) : w.heap.size ≤ gb312)); clear HB; have HB := n0_; have BK312 := n1_; have GW312 := n2_; have GE312 := n3_; clear n0_ n1_ n2_ n3_; clear hb hbox hg) | ((with_reducible refine ia_ (f := 26) rfl ?_); refine gc_ (some 15) rfl rfl Tryz.func26 Qb rfl #[.string a0] rfl Qj ?_; (with_reducible refine (ib_.calls k a0 t313 t314 _ A2.out).mono ?_); rintro e w16 ⟨rfl, hb⟩; refine ⟨_, rfl, ?_⟩; have n0_ := ba_.mk (ed_ (g := gb312) (o := .cells #[.int .i64 0, .int .i64 0, .int .i64 0, .int .i64 0] 38 (0, 0)) (Qr BK312.out) hb); have n1_ := ba_.mk (wa_ Q1 hb); clear BK312; clear HB; have BK312 := n0_; have HB := n1_; clear n0_ n1_; (try clear hb); (try clear hb2); (try clear hk); (try clear hi)) | ((with_reducible refine ia_ (f := 27) rfl ?_); refine gc_ (some 24) rfl rfl Tryz.func27 Qb rfl #[.string t313] rfl Qj ?_; (with_reducible refine (xa_.calls k t313 t315 t316 _ A4.out).mono ?_); rintro e w17 ⟨v317, rfl, ho0, hb⟩; refine ⟨_, rfl, ?_⟩; have n0_ := ba_.mk (Kd.td_ ho0 (za_ Q1)); have n1_ := ba_.mk (ed_ (g := gb312) (o := .cells #[.int .i64 0, .int .i64 0, .int .i64 0, .int .i64 0] 38 (0, 0)) (Qr BK312.out) hb); have n2_ := ba_.mk (wa_ Q1 hb); clear BK312; clear HB; have HO318 := n0_; have BK312 := n1_; have HB := n2_; clear n0_ n1_ n2_; (try clear hb); (try clear hb2); (try clear hk); (try clear hi); (try clear ho0); obtain ⟨Ao18, co18, eo18⟩ := Kd.pd_ HO318.out; subst eo18) | ((with_reducible refine ia_ (f := 59) rfl ?_); refine gc_ (some 29) rfl rfl Tryz.func59 Qb rfl #[.slice Ao18 t315.length co18] rfl Qj ?_; (with_reducible refine (tp_.calls _ _ t315 t319 t320 t321 _ ?side1 ?side2 A5.out).mono ?_); (case side1 => repeat (first | exact (Kd.cc_ HO318.out).2.2 | (with_reducible refine Kd.gd_ ?_ _) | (with_reducible refine Kd.hd_ ?_ _) | (with_reducible refine Kd.yd_ ?_))); (case side2 => exact (Kd.cc_ HO318.out).2.1); rintro e w19 ⟨v322, rfl, ho0, hb⟩; refine ⟨_, rfl, ?_⟩; have n0_ := ba_.mk (Kd.ke_ (Ql HO318.out) (Kd.if_ ho0) hb); have n1_ := ba_.mk (Kd.td_ (Kd.hf_ ho0 (Kd.R_lt (Ql HO318.out))) (za_ Q1)); have n2_ := ba_.mk (ed_ (g := gb312) (o := .cells #[.int .i64 0, .int .i64 0, .int .i64 0, .int .i64 0] 38 (0, 0)) (Qr BK312.out) hb); have n3_ := ba_.mk (wa_ Q1 hb); clear HO318; clear BK312; clear HB; have HO318 := n0_; have HO323 := n1_; have BK312 := n2_; have HB := n3_; clear n0_ n1_ n2_ n3_; (try clear hb); (try clear hb2); (try clear hk); (try clear hi); (try clear ho0)))
  have n0_ := ba_.mk (Kd.rb_ HO318.out)
  have n1_ := ba_.mk (Kd.rb_ HO323.out)
  have n2_ := ba_.mk (pb_ BK312.out)
  have n3_ := ba_.mk (ca_ HB.out)
  clear HO318
  clear HO323
  clear BK312
  clear HB
  have HO318 := n0_
  have HO323 := n1_
  have BK312 := n2_
  have HB := n3_
  clear n0_ n1_ n2_ n3_
  obtain ⟨Ao21, co21, eo21⟩ := Kd.pd_ HO323.out
  (first | subst eo21 | (injection eo21 with f1_ f2_ f3_; have f4_ := f1_.symm; have f5_ := f3_.symm; clear f1_ f2_ f3_; subst f4_; subst f5_))
  have p324 : 0 ≤ (0 : Int) := Qa
  have q324 : 0 < (t319.length : Int) := of_decide_eq_true Qg
  obtain ⟨ad324, e324, hx324_0⟩ := Kd.sd_ (Kd.cc_ HO323.out).2.2 0 p324 q324
  cases e324
  have qi324 : (0 < t319.length) = True := eq_true Qa
  (try rw [show ((0 : Int)).toNat = 0 from rfl] at hx324_0)
  (try rw [Addr.add_zero'] at hx324_0)
  replace p324 := eq_true p324
  replace q324 := eq_true q324
  have p325 : 0 ≤ (1 : Int) := Qa
  have q325 : 1 < (t319.length : Int) := of_decide_eq_true Qg
  obtain ⟨ad325, e325, hx325_0⟩ := Kd.sd_ (Kd.cc_ HO323.out).2.2 1 p325 q325
  obtain rfl : ad324 = ad325 := (by injection e325)
  (try simp only [show (1 : Int).toNat = 1 from rfl, Nat.reduceMul, Nat.reduceEqDiff, Go.Addr.add, ↓reduceIte] at hx325_0)
  have qi325 : (1 < t319.length) = True := eq_true Qa
  (try rw [show ((1 : Int)).toNat = 1 from rfl] at hx325_0)
  replace p325 := eq_true p325
  replace q325 := eq_true q325
  have p326 : 0 ≤ (2 : Int) := Qa
  have q326 : 2 < (t319.length : Int) := of_decide_eq_true Qg
  obtain ⟨ad326, e326, hx326_0⟩ := Kd.sd_ (Kd.cc_ HO323.out).2.2 2 p326 q326
  obtain rfl : ad324 = ad326 := (by injection e326)
  (try simp only [show (2 : Int).toNat = 2 from rfl, Nat.reduceMul, Nat.reduceEqDiff, Go.Addr.add, ↓reduceIte] at hx326_0)
  have qi326 : (2 < t319.length) = True := eq_true Qa
  (try rw [show ((2 : Int)).toNat = 2 from rfl] at hx326_0)
  replace p326 := eq_true p326
  replace q326 := eq_true q326
  have p327 : 0 ≤ (3 : Int) := Qa
  have q327 : 3 < (t319.length : Int) := of_decide_eq_true Qg
  obtain ⟨ad327, e327, hx327_0⟩ := Kd.sd_ (Kd.cc_ HO323.out).2.2 3 p327 q327
  obtain rfl : ad324 = ad327 := (by injection e327)
  (try simp only [show (3 : Int).toNat = 3 from rfl, Nat.reduceMul, Nat.reduceEqDiff, Go.Addr.add, ↓reduceIte] at hx327_0)
  have qi327 : (3 < t319.length) = True := eq_true Qa
  (try rw [show ((3 : Int)).toNat = 3 from rfl] at hx327_0)
  replace p327 := eq_true p327
  replace q327 := eq_true q327
  have p328 : 0 ≤ (4 : Int) := Qa
  have q328 : 4 < (t319.length : Int) := of_decide_eq_true Qg
  obtain ⟨ad328, e328, hx328_0⟩ := Kd.sd_ (Kd.cc_ HO323.out).2.2 4 p328 q328
  obtain rfl : ad324 = ad328 := (by injection e328)
  (try simp only [show (4 : Int).toNat = 4 from rfl, Nat.reduceMul, Nat.reduceEqDiff, Go.Addr.add, ↓reduceIte] at hx328_0)
  have qi328 : (4 < t319.length) = True := eq_true Qa
  (try rw [show ((4 : Int)).toNat = 4 from rfl] at hx328_0)
  replace p328 := eq_true p328
  replace q328 := eq_true q328
  have p329 : 0 ≤ (5 : Int) := Qa
  have q329 : 5 < (t319.length : Int) := of_decide_eq_true Qg
  obtain ⟨ad329, e329, hx329_0⟩ := Kd.sd_ (Kd.cc_ HO323.out).2.2 5 p329 q329
  obtain rfl : ad324 = ad329 := (by injection e329)
  (try simp only [show (5 : Int).toNat = 5 from rfl, Nat.reduceMul, Nat.reduceEqDiff, Go.Addr.add, ↓reduceIte] at hx329_0)
  have qi329 : (5 < t319.length) = True := eq_true Qa
  (try rw [show ((5 : Int)).toNat = 5 from rfl] at hx329_0)
  replace p329 := eq_true p329
  replace q329 := eq_true q329
  refine kh_ (n := 25) (S := fun w' => w'.cell? ad324 = some (.int .i64 (rd t319 0)) ∧ w'.cell? ⟨ad324.block, ad324.off + 1, none⟩ = some (.int .i64 (rd t319 1)) ∧ w'.cell? ⟨ad324.block, ad324.off + 2, none⟩ = some (.int .i64 (rd t319 2)) ∧ w'.cell? ⟨ad324.block, ad324.off + 3, none⟩ = some (.int .i64 (rd t319 3)) ∧ w'.cell? ⟨ad324.block, ad324.off + 4, none⟩ = some (.int .i64 (rd t319 4)) ∧ w'.cell? ⟨ad324.block, ad324.off + 5, none⟩ = some (.int .i64 (rd t319 5))) (ds := []) Qbl Qb rfl rfl ⟨hx324_0, hx325_0, hx326_0, hx327_0, hx328_0, hx329_0⟩ (fun hHeld => ?_); refine lh_ kc_.tab8 kc_.kv_ (fun HT_ HW_ => ?_)
  generalize w19.drew = w20 at HO318 HO323 BK312 HB hx324_0 hx325_0 hx326_0 hx327_0 hx328_0 hx329_0 hHeld ⊢
  refine oc_ (i := 0) (N := some 37) (v := ?_) (a' := ?_) Qbm rfl rfl Qm Qd (Or.inl ⟨by rfl, ?_⟩) ?_ ?_
  rotate_left
  ·exact Qf
  rotate_left
  ·exact Qc
  refine oc_ (i := 1) (N := some 38) (v := ?_) (a' := ?_) Qbn rfl rfl Qm Qd (Or.inl ⟨by rfl, ?_⟩) ?_ ?_
  rotate_left
  ·exact Qf
  rotate_left
  ·exact Qc
  refine oc_ (i := 3) (N := some 40) (v := ?_) (a' := ?_) Qbo rfl rfl Qm Qd (Or.inl ⟨by rfl, ?_⟩) ?_ ?_
  rotate_left
  ·exact Qf
  rotate_left
  ·exact Qc
  refine oc_ (i := 4) (N := some 41) (v := ?_) (a' := ?_) Qbq rfl rfl Qm Qd (Or.inl ⟨by rfl, ?_⟩) ?_ ?_
  rotate_left
  ·exact Qf
  rotate_left
  ·exact Qc
  refine oc_ (i := 7) (N := some 44) (v := ?_) (a' := ?_) Qbr rfl rfl Qm Qd (Or.inl ⟨by rfl, ?_⟩) ?_ ?_
  rotate_left
  ·exact Qf
  rotate_left
  ·exact Qc
  refine oc_ (i := 8) (N := some 45) (v := ?_) (a' := ?_) Qbs rfl rfl Qm Qd (Or.inl ⟨by rfl, ?_⟩) ?_ ?_
  rotate_left
  ·exact Qf
  rotate_left
  ·exact Qc
  refine oc_ (i := 12) (N := some 49) (v := ?_) (a' := ?_) Qbt rfl rfl Qm Qd (Or.inl ⟨by rfl, ?_⟩) ?_ ?_
  rotate_left
  ·exact Qf
  rotate_left
  ·exact Qc
  refine oc_ (i := 13) (N := some 50) (v := ?_) (a' := ?_) Qbu rfl rfl Qm Qd (Or.inl ⟨by rfl, ?_⟩) ?_ ?_
  rotate_left
  ·exact Qf
  rotate_left
  ·exact Qc
  refine oc_ (i := 16) (N := some 53) (v := ?_) (a' := ?_) Qbv rfl rfl Qm Qd (Or.inl ⟨by rfl, ?_⟩) ?_ ?_
  rotate_left
  ·exact Qf
  rotate_left
  ·exact Qc
  refine oc_ (i := 17) (N := some 54) (v := ?_) (a' := ?_) Qbw rfl rfl Qm Qd (Or.inl ⟨by rfl, ?_⟩) ?_ ?_
  rotate_left
  ·exact Qf
  rotate_left
  ·exact Qc
  refine oc_ (i := 19) (N := some 56) (v := ?_) (a' := ?_) Qbx rfl rfl Qm Qd (Or.inl ⟨by rfl, ?_⟩) ?_ ?_
  rotate_left
  ·exact Qf
  rotate_left
  ·exact Qc
  refine oc_ (i := 20) (N := some 57) (v := ?_) (a' := ?_) Qby rfl rfl Qm Qd (Or.inl ⟨by rfl, ?_⟩) ?_ ?_
  rotate_left
  ·exact Qf
  rotate_left
  ·exact Qc
  refine df_ (i := 2) (N := some 39) (v := ?_) (a' := ?_) Qbz rfl rfl (ie_ HT_.out HW_.out Qb) Qd (Or.inl ⟨by rfl, ?_⟩) hHeld ?_ ?_
  rotate_left
  ·exact Qz
  rotate_left
  ·exact Qc
  refine df_ (i := 5) (N := some 42) (v := ?_) (a' := ?_) Qb1 rfl rfl (ie_ HT_.out HW_.out Qb) Qd (Or.inl ⟨by rfl, ?_⟩) hHeld ?_ ?_
  rotate_left
  ·exact Qz
  rotate_left
  ·exact Qc
  refine oc_ (i := 6) (N := some 43) (v := ?_) (a' := ?_) Qb2 rfl rfl Qm Qd (Or.inl ⟨by rfl, ?_⟩) ?_ ?_
  rotate_left
  ·exact Qf
  rotate_left
  ·exact Qc
  refine df_ (i := 9) (N := some 46) (v := ?_) (a' := ?_) Qb3 rfl rfl (ie_ HT_.out HW_.out Qb) Qd (Or.inl ⟨by rfl, ?_⟩) hHeld ?_ ?_
  rotate_left
  ·exact Qz
  rotate_left
  ·exact Qc
  refine oc_ (i := 10) (N := some 47) (v := ?_) (a' := ?_) Qb4 rfl rfl Qm Qd (Or.inl ⟨by rfl, ?_⟩) ?_ ?_
  rotate_left
  ·exact Qf
  rotate_left
  ·exact Qc
  refine oc_ (i := 11) (N := some 48) (v := ?_) (a' := ?_) Qb5 rfl rfl Qm Qd (Or.inl ⟨by rfl, ?_⟩) ?_ ?_
  rotate_left
  ·exact Qf
  rotate_left
  ·exact Qc
  refine df_ (i := 14) (N := some 51) (v := ?_) (a' := ?_) Qb6 rfl rfl (ie_ HT_.out HW_.out Qb) Qd (Or.inl ⟨by rfl, ?_⟩) hHeld ?_ ?_
  rotate_left
  ·exact Qz
  rotate_left
  ·exact Qc
  refine oc_ (i := 15) (N := some 52) (v := ?_) (a' := ?_) Qb7 rfl rfl Qm Qd (Or.inl ⟨by rfl, ?_⟩) ?_ ?_
  rotate_left
  ·exact Qf
  rotate_left
  ·exact Qc
  refine df_ (i := 18) (N := some 55) (v := ?_) (a' := ?_) Qb8 rfl rfl (ie_ HT_.out HW_.out Qb) Qd (Or.inl ⟨by rfl, ?_⟩) hHeld ?_ ?_
  rotate_left
  ·exact Qz
  rotate_left
  ·exact Qc
  refine df_ (i := 21) (N := some 58) (v := ?_) (a' := ?_) Qb9 rfl rfl (ie_ HT_.out HW_.out Qb) Qd (Or.inl ⟨by rfl, ?_⟩) hHeld ?_ ?_
  rotate_left
  ·exact Qz
  rotate_left
  ·exact Qc
  refine oc_ (i := 22) (N := some 59) (v := ?_) (a' := ?_) Qca rfl rfl Qm Qd (Or.inl ⟨by rfl, ?_⟩) ?_ ?_
  rotate_left
  ·exact Qf
  rotate_left
  ·exact Qc
  refine one_ (i := 23) (N := some 12) Qcc rfl rfl Xb Qh (fun K hK => ?_)
  refine bx_ ?hg (N := 12) ?hd (cs := #[.int .i64 0, .int .i64 0, .int .i64 0, .int .i64 0]) (t := 38) ?hr ?_; (case hd => rfl); (case hg => rfl); (case hr => exact Qt)
  intro gb330 hg w22 hbox hb
  have HS0_ := (hb.cell (World.block_lt_of_cell? _ _ (hHeld.1))).trans (hHeld.1)
  have HS1_ := (hb.cell (World.block_lt_of_cell? _ _ (hHeld.2.1))).trans (hHeld.2.1)
  have HS2_ := (hb.cell (World.block_lt_of_cell? _ _ (hHeld.2.2.1))).trans (hHeld.2.2.1)
  have HS3_ := (hb.cell (World.block_lt_of_cell? _ _ (hHeld.2.2.2.1))).trans (hHeld.2.2.2.1)
  have HS4_ := (hb.cell (World.block_lt_of_cell? _ _ (hHeld.2.2.2.2.1))).trans (hHeld.2.2.2.2.1)
  have HS5_ := (hb.cell (World.block_lt_of_cell? _ _ (hHeld.2.2.2.2.2))).trans (hHeld.2.2.2.2.2)
  have n0_ := ba_.mk (Kd.ne_ (Ql HO318.out) hb)
  have n1_ := ba_.mk (Kd.ne_ (Ql HO323.out) hb)
  have n2_ := ba_.mk (ed_ (g := gb312) (o := .cells #[.int .i64 0, .int .i64 0, .int .i64 0, .int .i64 0] 38 (0, 0)) (Qr BK312.out) hb)
  have n3_ := ba_.mk (wa_ Q1 hb)
  have n4_ := ba_.mk (hbox)
  have n5_ := ba_.mk ((by rw [hg]; exact (za_ Q1) : w.heap.size ≤ gb330))
  have n6_ := ba_.mk ((by rw [hg]; exact (za_ Q1) : w.heap.size ≤ gb330))
  have n7_ := ba_.mk ((by rw [hg]; exact Nat.ne_of_lt (fj_ (g := gb312) (o := .cells #[.int .i64 0, .int .i64 0, .int .i64 0, .int .i64 0] 38 (0, 0)) (Qr BK312.out)) : gb312 ≠ gb330))
  have n8_ := ba_.mk ((by rw [hg]; exact Nat.ne_of_gt (fj_ (g := gb312) (o := .cells #[.int .i64 0, .int .i64 0, .int .i64 0, .int .i64 0] 38 (0, 0)) (Qr BK312.out)) : gb330 ≠ gb312))
  clear HO318
  clear HO323
  clear BK312
  clear HB
  have HO318 := n0_
  have HO323 := n1_
  have BK312 := n2_
  have HB := n3_
  have BK330 := n4_
  have GW330 := n5_
  have GE330 := n6_
  have NB312_330 := n7_
  have NB330_312 := n8_
  clear n0_ n1_ n2_ n3_ n4_ n5_ n6_ n7_ n8_
  clear hb hbox hg
  refine hK.out _ _ ⟨HS0_, HS1_, HS2_, HS3_, HS4_, HS5_⟩ (fun hHeld => ?_)
  clear hK K
  refine kk_ (a' := ?_) ?_ ?_
  rotate_left
  ·show Act.put _ (some 12) _ = _
   simp only [Act.put, List.setIfInBounds_toArray, List.set_cons_zero, List.set_cons_succ, yb_, ac_]
   rfl
  refine one_ (i := 24) (N := none) Qcd rfl rfl Xb Qh (fun K hK => ?_)
  have hs23 : w22.cell? ⟨gb330, 0, none⟩ = some (.int .i64 0) := (mb_ BK330.out 0).trans rfl
  have hfs23 := qa_ BK330.out 0
  have hns23_0 := NB312_330.out
  have hms23_0 := NB330_312.out
  have hs24 : w22.cell? ⟨gb330, 1, none⟩ = some (.int .i64 0) := (mb_ BK330.out 1).trans rfl
  have hfs24 := qa_ BK330.out 1
  have hns24_0 := NB312_330.out
  have hms24_0 := NB330_312.out
  have hs25 : w22.cell? ⟨gb330, 2, none⟩ = some (.int .i64 0) := (mb_ BK330.out 2).trans rfl
  have hfs25 := qa_ BK330.out 2
  have hns25_0 := NB312_330.out
  have hms25_0 := NB330_312.out
  have hs26 : w22.cell? ⟨gb330, 3, none⟩ = some (.int .i64 0) := (mb_ BK330.out 3).trans rfl
  have hfs26 := qa_ BK330.out 3
  have hns26_0 := NB312_330.out
  have hms26_0 := NB330_312.out
  refine xl_ (w1 := ?_) (by rfl) rfl ?_ ?_
  rotate_left
  ·go_simp
   rfl
  refine hK.out _ _ ⟨((cell_far (p := ⟨gb330, _, none⟩) Qv _).trans (((cell_far (p := ⟨gb330, _, none⟩) Qv _).trans (((cell_far (p := ⟨gb330, _, none⟩) Qv _).trans (((cell_far (p := ⟨gb330, _, none⟩) Qv _).trans (hHeld.1)))))))), ((cell_far (p := ⟨gb330, _, none⟩) Qv _).trans (((cell_far (p := ⟨gb330, _, none⟩) Qv _).trans (((cell_far (p := ⟨gb330, _, none⟩) Qv _).trans (((cell_far (p := ⟨gb330, _, none⟩) Qv _).trans (hHeld.2.1)))))))), ((cell_far (p := ⟨gb330, _, none⟩) Qv _).trans (((cell_far (p := ⟨gb330, _, none⟩) Qv _).trans (((cell_far (p := ⟨gb330, _, none⟩) Qv _).trans (((cell_far (p := ⟨gb330, _, none⟩) Qv _).trans (hHeld.2.2.1)))))))), ((cell_far (p := ⟨gb330, _, none⟩) Qv _).trans (((cell_far (p := ⟨gb330, _, none⟩) Qv _).trans (((cell_far (p := ⟨gb330, _, none⟩) Qv _).trans (((cell_far (p := ⟨gb330, _, none⟩) Qv _).trans (hHeld.2.2.2.1)))))))), ((cell_far (p := ⟨gb330, _, none⟩) Qv _).trans (((cell_far (p := ⟨gb330, _, none⟩) Qv _).trans (((cell_far (p := ⟨gb330, _, none⟩) Qv _).trans (((cell_far (p := ⟨gb330, _, none⟩) Qv _).trans (hHeld.2.2.2.2.1)))))))), ((cell_far (p := ⟨gb330, _, none⟩) Qv _).trans (((cell_far (p := ⟨gb330, _, none⟩) Qv _).trans (((cell_far (p := ⟨gb330, _, none⟩) Qv _).trans (((cell_far (p := ⟨gb330, _, none⟩) Qv _).trans (hHeld.2.2.2.2.2))))))))⟩ (fun hHeld => ?_)
  clear hK K
  refine jk_ Xw ?_
  have hnb27 := NB330_312.out
  have hnc27 := NB312_330.out
  have hcz28_0 : w22.cell? ⟨gb330, 0, none⟩ = some (.int .i64 0) := (mb_ BK330.out 0).trans rfl
  have hcz28_1 : w22.cell? ⟨gb330, 1, none⟩ = some (.int .i64 0) := (mb_ BK330.out 1).trans rfl
  have hcz28_2 : w22.cell? ⟨gb330, 2, none⟩ = some (.int .i64 0) := (mb_ BK330.out 2).trans rfl
  have hcz28_3 : w22.cell? ⟨gb330, 3, none⟩ = some (.int .i64 0) := (mb_ BK330.out 3).trans rfl
  have hfz28_0 := qa_ BK330.out 0
  have hfz28_1 := qa_ BK330.out 1
  have hfz28_2 := qa_ BK330.out 2
  have hfz28_3 := qa_ BK330.out 3
  try go_wp2_with (first | ((with_reducible refine ia_ (f := 60) rfl ?_); refine gc_ (some 61) rfl rfl Tryz.func60 Qb rfl #[.agg #[.int .i64 (rd t319 0), .int .i64 (wrap64 ((wrap64 ((wrap64 (1024 * (rd t319 1))) + (wrap64 (32 * (rd t319 2))))) + (rd t319 3))), .int .i64 (rd t319 4), .int .i64 (rd t319 5)]] rfl Qj ?_; (with_reducible refine (dd_.calls (rd t319 0) (wrap64 ((wrap64 ((wrap64 (1024 * (rd t319 1))) + (wrap64 (32 * (rd t319 2))))) + (rd t319 3))) (rd t319 4) (rd t319 5) true _ A13.out).mono ?_); rintro e w29 ⟨rfl, hb⟩; refine ⟨_, rfl, ?_⟩; have n0_ := ba_.mk (Kd.ne_ (by (with_reducible repeat (first | apply Kd.eb_ | apply Kd.fb_ | apply Kd.rb_)); exact (Kd.rd_ (Kd.jf_ (p := ⟨gb330, 3, none⟩) (Kd.jf_ (p := ⟨gb330, 2, none⟩) (Kd.jf_ (p := ⟨gb330, 1, none⟩) (Kd.jf_ (p := ⟨gb330, 0, none⟩) (Kd.th_ HO318.out BK330.out Qh) (fun _ hk => hk.2) (.int .i64 (rd t319 0))) (fun _ hk => hk.2) (.int .i64 (wrap64 ((wrap64 ((wrap64 (1024 * (rd t319 1))) + (wrap64 (32 * (rd t319 2))))) + (rd t319 3))))) (fun _ hk => hk.2) (.int .i64 (rd t319 4))) (fun _ hk => hk.2) (.int .i64 (rd t319 5))) (fun _ h_ => h_.1))) hb); have n1_ := ba_.mk (Kd.ne_ (by (with_reducible repeat (first | apply Kd.eb_ | apply Kd.fb_ | apply Kd.rb_)); exact (Kd.rd_ (Kd.jf_ (p := ⟨gb330, 3, none⟩) (Kd.jf_ (p := ⟨gb330, 2, none⟩) (Kd.jf_ (p := ⟨gb330, 1, none⟩) (Kd.jf_ (p := ⟨gb330, 0, none⟩) (Kd.th_ HO323.out BK330.out Qh) (fun _ hk => hk.2) (.int .i64 (rd t319 0))) (fun _ hk => hk.2) (.int .i64 (wrap64 ((wrap64 ((wrap64 (1024 * (rd t319 1))) + (wrap64 (32 * (rd t319 2))))) + (rd t319 3))))) (fun _ hk => hk.2) (.int .i64 (rd t319 4))) (fun _ hk => hk.2) (.int .i64 (rd t319 5))) (fun _ h_ => h_.1))) hb); have n2_ := ba_.mk (ed_ (g := gb312) (o := .cells #[.int .i64 0, .int .i64 0, .int .i64 0, .int .i64 0] 38 (0, 0)) (by (with_reducible repeat (first | refine db_ ?_ _ | refine pb_ ?_ | refine cb_ ?_ _)); refine uh_ ?_ NB312_330.out _; (with_reducible repeat (first | refine db_ ?_ _ | refine pb_ ?_ | refine cb_ ?_ _)); refine uh_ ?_ NB312_330.out _; (with_reducible repeat (first | refine db_ ?_ _ | refine pb_ ?_ | refine cb_ ?_ _)); refine uh_ ?_ NB312_330.out _; (with_reducible repeat (first | refine db_ ?_ _ | refine pb_ ?_ | refine cb_ ?_ _)); refine uh_ ?_ NB312_330.out _; (with_reducible repeat (first | refine db_ ?_ _ | refine pb_ ?_ | refine cb_ ?_ _)); exact BK312.out) hb); have n3_ := ba_.mk (ed_ (g := gb330) (o := .cells #[.int .i64 (rd t319 0), .int .i64 (wrap64 ((wrap64 ((wrap64 (1024 * (rd t319 1))) + (wrap64 (32 * (rd t319 2))))) + (rd t319 3))), .int .i64 (rd t319 4), .int .i64 (rd t319 5)] 38 (0, 0)) (by (with_reducible repeat (first | refine db_ ?_ _ | refine pb_ ?_ | refine cb_ ?_ _)); refine od_ (cs := #[.int .i64 (rd t319 0), .int .i64 (wrap64 ((wrap64 ((wrap64 (1024 * (rd t319 1))) + (wrap64 (32 * (rd t319 2))))) + (rd t319 3))), .int .i64 (rd t319 4), .int .i64 0]) ?_ 3 _ rfl; (with_reducible repeat (first | refine db_ ?_ _ | refine pb_ ?_ | refine cb_ ?_ _)); refine od_ (cs := #[.int .i64 (rd t319 0), .int .i64 (wrap64 ((wrap64 ((wrap64 (1024 * (rd t319 1))) + (wrap64 (32 * (rd t319 2))))) + (rd t319 3))), .int .i64 0, .int .i64 0]) ?_ 2 _ rfl; (with_reducible repeat (first | refine db_ ?_ _ | refine pb_ ?_ | refine cb_ ?_ _)); refine od_ (cs := #[.int .i64 (rd t319 0), .int .i64 0, .int .i64 0, .int .i64 0]) ?_ 1 _ rfl; (with_reducible repeat (first | refine db_ ?_ _ | refine pb_ ?_ | refine cb_ ?_ _)); refine od_ (cs := #[.int .i64 0, .int .i64 0, .int .i64 0, .int .i64 0]) ?_ 0 _ rfl; (with_reducible repeat (first | refine db_ ?_ _ | refine pb_ ?_ | refine cb_ ?_ _)); exact BK330.out) hb); have n4_ := ba_.mk (wa_ Yo hb); clear HO318; clear HO323; clear BK312; clear BK330; clear HB; have HO318 := n0_; have HO323 := n1_; have BK312 := n2_; have BK330 := n3_; have HB := n4_; clear n0_ n1_ n2_ n3_ n4_; (try clear hb); (try clear hb2); (try clear hk); (try clear hi); have hcz30_0 : w29.cell? ⟨gb330, 0, none⟩ = some (.int .i64 (rd t319 0)) := (mb_ BK330.out 0).trans rfl; have hcz30_1 : w29.cell? ⟨gb330, 1, none⟩ = some (.int .i64 (wrap64 ((wrap64 ((wrap64 (1024 * (rd t319 1))) + (wrap64 (32 * (rd t319 2))))) + (rd t319 3)))) := (mb_ BK330.out 1).trans rfl; have hcz30_2 : w29.cell? ⟨gb330, 2, none⟩ = some (.int .i64 (rd t319 4)) := (mb_ BK330.out 2).trans rfl; have hcz30_3 : w29.cell? ⟨gb330, 3, none⟩ = some (.int .i64 (rd t319 5)) := (mb_ BK330.out 3).trans rfl; have hfz30_0 := qa_ BK330.out 0; have hfz30_1 := qa_ BK330.out 1; have hfz30_2 := qa_ BK330.out 2; have hfz30_3 := qa_ BK330.out 3; have hcz31_0 : w29.cell? ⟨gb312, 0, none⟩ = some (.int .i64 0) := (mb_ BK312.out 0).trans rfl; have hcz31_1 : w29.cell? ⟨gb312, 1, none⟩ = some (.int .i64 0) := (mb_ BK312.out 1).trans rfl; have hcz31_2 : w29.cell? ⟨gb312, 2, none⟩ = some (.int .i64 0) := (mb_ BK312.out 2).trans rfl; have hcz31_3 : w29.cell? ⟨gb312, 3, none⟩ = some (.int .i64 0) := (mb_ BK312.out 3).trans rfl; have hfz31_0 := qa_ BK312.out 0; have hfz31_1 := qa_ BK312.out 1; have hfz31_2 := qa_ BK312.out 2; have hfz31_3 := qa_ BK312.out 3))
  refine bodyPost_ret (jg_ rfl _ _ gb312 38 #[.int .i64 (rd t319 0), .int .i64 (wrap64 ((wrap64 ((wrap64 (1024 * (rd t319 1))) + (wrap64 (32 * (rd t319 2))))) + (rd t319 3))), .int .i64 (rd t319 4), .int .i64 (rd t319 5)] (0, 0) _ rfl (by (with_reducible repeat (first | refine db_ ?_ _ | refine pb_ ?_ | refine cb_ ?_ _)); refine od_ (cs := #[.int .i64 (rd t319 0), .int .i64 (wrap64 ((wrap64 ((wrap64 (1024 * (rd t319 1))) + (wrap64 (32 * (rd t319 2))))) + (rd t319 3))), .int .i64 (rd t319 4), .int .i64 0]) ?_ 3 _ rfl; (with_reducible repeat (first | refine db_ ?_ _ | refine pb_ ?_ | refine cb_ ?_ _)); refine od_ (cs := #[.int .i64 (rd t319 0), .int .i64 (wrap64 ((wrap64 ((wrap64 (1024 * (rd t319 1))) + (wrap64 (32 * (rd t319 2))))) + (rd t319 3))), .int .i64 0, .int .i64 0]) ?_ 2 _ rfl; (with_reducible repeat (first | refine db_ ?_ _ | refine pb_ ?_ | refine cb_ ?_ _)); refine od_ (cs := #[.int .i64 (rd t319 0), .int .i64 0, .int .i64 0, .int .i64 0]) ?_ 1 _ rfl; (with_reducible repeat (first | refine db_ ?_ _ | refine pb_ ?_ | refine cb_ ?_ _)); refine od_ (cs := #[.int .i64 0, .int .i64 0, .int .i64 0, .int .i64 0]) ?_ 0 _ rfl; (with_reducible repeat (first | refine db_ ?_ _ | refine pb_ ?_ | refine cb_ ?_ _)); exact BK312.out) Tryz.underlying38 rfl Qb) rfl ?_
  exact ⟨Qq, Yo⟩
 replace c14 := Bool.eq_false_iff.mpr c14
 subst c14
 have H1 : (some (0, 0, 0, 0, 0, 2)) = some (r1, r2, r3, r4, r5, r6) := by rw [if_neg (show ¬ (false = true) by decide)] at H; exact H
 clear H
 have H := H1
 clear H1
 simp only [Option.some.injEq, Prod.mk.injEq] at H
 obtain ⟨rfl, rfl, rfl, rfl, rfl, rfl⟩ := H
 go_enter Tryz.func29, Tryz.ntmps29
 try go_wp2_with (first | ((with_reducible refine md_ (N := 2) rfl ?_); refine fe_ ?hg (N := 2) ?hd (cs := #[.int .i64 0, .int .i64 0, .int .i64 0, .int .i64 0]) (t := 38) ?hr ?_; (case hd => rfl); (case hg => rfl); (case hr => exact Qt); intro gb312 hg w32 hbox hb; have n0_ := ba_.mk (wa_ Qe hb); have n1_ := ba_.mk (hbox); have n2_ := ba_.mk ((by rw [hg]; exact (za_ Qe) : w.heap.size ≤ gb312)); have n3_ := ba_.mk ((by rw [hg]; exact (za_ Qe) : w.heap.size ≤ gb312)); clear HB; have HB := n0_; have BK312 := n1_; have GW312 := n2_; have GE312 := n3_; clear n0_ n1_ n2_ n3_; clear hb hbox hg) | ((with_reducible refine ia_ (f := 26) rfl ?_); refine gc_ (some 15) rfl rfl Tryz.func26 Qb rfl #[.string a0] rfl Qj ?_; (with_reducible refine (ib_.calls k a0 t313 t314 _ A2.out).mono ?_); rintro e w33 ⟨rfl, hb⟩; refine ⟨_, rfl, ?_⟩; have n0_ := ba_.mk (ed_ (g := gb312) (o := .cells #[.int .i64 0, .int .i64 0, .int .i64 0, .int .i64 0] 38 (0, 0)) (Qr BK312.out) hb); have n1_ := ba_.mk (wa_ Q1 hb); clear BK312; clear HB; have BK312 := n0_; have HB := n1_; clear n0_ n1_; (try clear hb); (try clear hb2); (try clear hk); (try clear hi)) | ((with_reducible refine ia_ (f := 27) rfl ?_); refine gc_ (some 24) rfl rfl Tryz.func27 Qb rfl #[.string t313] rfl Qj ?_; (with_reducible refine (xa_.calls k t313 t315 t316 _ A4.out).mono ?_); rintro e w34 ⟨v317, rfl, ho0, hb⟩; refine ⟨_, rfl, ?_⟩; have n0_ := ba_.mk (Kd.td_ ho0 (za_ Q1)); have n1_ := ba_.mk (ed_ (g := gb312) (o := .cells #[.int .i64 0, .int .i64 0, .int .i64 0, .int .i64 0] 38 (0, 0)) (Qr BK312.out) hb); have n2_ := ba_.mk (wa_ Q1 hb); clear BK312; clear HB; have HO318 := n0_; have BK312 := n1_; have HB := n2_; clear n0_ n1_ n2_; (try clear hb); (try clear hb2); (try clear hk); (try clear hi); (try clear ho0); obtain ⟨Ao35, co35, eo35⟩ := Kd.pd_ HO318.out; subst eo35) | ((with_reducible refine ia_ (f := 59) rfl ?_); refine gc_ (some 29) rfl rfl Tryz.func59 Qb rfl #[.slice Ao35 t315.length co35] rfl Qj ?_; (with_reducible refine (tp_.calls _ _ t315 t319 t320 t321 _ ?side1 ?side2 A5.out).mono ?_); (case side1 => repeat (first | exact (Kd.cc_ HO318.out).2.2 | (with_reducible refine Kd.gd_ ?_ _) | (with_reducible refine Kd.hd_ ?_ _) | (with_reducible refine Kd.yd_ ?_))); (case side2 => exact (Kd.cc_ HO318.out).2.1); rintro e w36 ⟨v322, rfl, ho0, hb⟩; refine ⟨_, rfl, ?_⟩; have n0_ := ba_.mk (Kd.ke_ (Ql HO318.out) (Kd.if_ ho0) hb); have n1_ := ba_.mk (Kd.td_ (Kd.hf_ ho0 (Kd.R_lt (Ql HO318.out))) (za_ Q1)); have n2_ := ba_.mk (ed_ (g := gb312) (o := .cells #[.int .i64 0, .int .i64 0, .int .i64 0, .int .i64 0] 38 (0, 0)) (Qr BK312.out) hb); have n3_ := ba_.mk (wa_ Q1 hb); clear HO318; clear BK312; clear HB; have HO318 := n0_; have HO323 := n1_; have BK312 := n2_; have HB := n3_; clear n0_ n1_ n2_ n3_; (try clear hb); (try clear hb2); (try clear hk); (try clear hi); (try clear ho0)))
 have n0_ := ba_.mk (Kd.rb_ HO318.out)
 have n1_ := ba_.mk (Kd.rb_ HO323.out)
 have n2_ := ba_.mk (pb_ BK312.out)
 have n3_ := ba_.mk (ca_ HB.out)
 clear HO318
 clear HO323
 clear BK312
 clear HB
 have HO318 := n0_
 have HO323 := n1_
 have BK312 := n2_
 have HB := n3_
 clear n0_ n1_ n2_ n3_
 obtain ⟨Ao38, co38, eo38⟩ := Kd.pd_ HO323.out
 (first | subst eo38 | (injection eo38 with f1_ f2_ f3_; have f4_ := f1_.symm; have f5_ := f3_.symm; clear f1_ f2_ f3_; subst f4_; subst f5_))
 have p324 : 0 ≤ (0 : Int) := Qa
 have q324 : 0 < (t319.length : Int) := of_decide_eq_true Qg
 obtain ⟨ad324, e324, hx324_0⟩ := Kd.sd_ (Kd.cc_ HO323.out).2.2 0 p324 q324
 cases e324
 have qi324 : (0 < t319.length) = True := eq_true Qa
 (try rw [show ((0 : Int)).toNat = 0 from rfl] at hx324_0)
 (try rw [Addr.add_zero'] at hx324_0)
 replace p324 := eq_true p324
 replace q324 := eq_true q324
 have p325 : 0 ≤ (1 : Int) := Qa
 have q325 : 1 < (t319.length : Int) := of_decide_eq_true Qg
 obtain ⟨ad325, e325, hx325_0⟩ := Kd.sd_ (Kd.cc_ HO323.out).2.2 1 p325 q325
 obtain rfl : ad324 = ad325 := (by injection e325)
 (try simp only [show (1 : Int).toNat = 1 from rfl, Nat.reduceMul, Nat.reduceEqDiff, Go.Addr.add, ↓reduceIte] at hx325_0)
 have qi325 : (1 < t319.length) = True := eq_true Qa
 (try rw [show ((1 : Int)).toNat = 1 from rfl] at hx325_0)
 replace p325 := eq_true p325
 replace q325 := eq_true q325
 have p326 : 0 ≤ (2 : Int) := Qa
 have q326 : 2 < (t319.length : Int) := of_decide_eq_true Qg
 obtain ⟨ad326, e326, hx326_0⟩ := Kd.sd_ (Kd.cc_ HO323.out).2.2 2 p326 q326
 obtain rfl : ad324 = ad326 := (by injection e326)
 (try simp only [show (2 : Int).toNat = 2 from rfl, Nat.reduceMul, Nat.reduceEqDiff, Go.Addr.add, ↓reduceIte] at hx326_0)
 have qi326 : (2 < t319.length) = True := eq_true Qa
 (try rw [show ((2 : Int)).toNat = 2 from rfl] at hx326_0)
 replace p326 := eq_true p326
 replace q326 := eq_true q326
 have p327 : 0 ≤ (3 : Int) := Qa
 have q327 : 3 < (t319.length : Int) := of_decide_eq_true Qg
 obtain ⟨ad327, e327, hx327_0⟩ := Kd.sd_ (Kd.cc_ HO323.out).2.2 3 p327 q327
 obtain rfl : ad324 = ad327 := (by injection e327)
 (try simp only [show (3 : Int).toNat = 3 from rfl, Nat.reduceMul, Nat.reduceEqDiff, Go.Addr.add, ↓reduceIte] at hx327_0)
 have qi327 : (3 < t319.length) = True := eq_true Qa
 (try rw [show ((3 : Int)).toNat = 3 from rfl] at hx327_0)
 replace p327 := eq_true p327
 replace q327 := eq_true q327
 have p328 : 0 ≤ (4 : Int) := Qa
 have q328 : 4 < (t319.length : Int) := of_decide_eq_true Qg
 obtain ⟨ad328, e328, hx328_0⟩ := Kd.sd_ (Kd.cc_ HO323.out).2.2 4 p328 q328
 obtain rfl : ad324 = ad328 := (by injection e328)
 (try simp only [show (4 : Int).toNat = 4 from rfl, Nat.reduceMul, Nat.reduceEqDiff, Go.Addr.add, ↓reduceIte] at hx328_0)
 have qi328 : (4 < t319.length) = True := eq_true Qa
 (try rw [show ((4 : Int)).toNat = 4 from rfl] at hx328_0)
 replace p328 := eq_true p328
 replace q328 := eq_true q328
 have p329 : 0 ≤ (5 : Int) := Qa
 have q329 : 5 < (t319.length : Int) := of_decide_eq_true Qg
 obtain ⟨ad329, e329, hx329_0⟩ := Kd.sd_ (Kd.cc_ HO323.out).2.2 5 p329 q329
 obtain rfl : ad324 = ad329 := (by injection e329)
 (try simp only [show (5 : Int).toNat = 5 from rfl, Nat.reduceMul, Nat.reduceEqDiff, Go.Addr.add, ↓reduceIte] at hx329_0)
 have qi329 : (5 < t319.length) = True := eq_true Qa
 (try rw [show ((5 : Int)).toNat = 5 from rfl] at hx329_0)
 replace p329 := eq_true p329
 replace q329 := eq_true q329
 refine kh_ (n := 25) (S := fun w' => w'.cell? ad324 = some (.int .i64 (rd t319 0)) ∧ w'.cell? ⟨ad324.block, ad324.off + 1, none⟩ = some (.int .i64 (rd t319 1)) ∧ w'.cell? ⟨ad324.block, ad324.off + 2, none⟩ = some (.int .i64 (rd t319 2)) ∧ w'.cell? ⟨ad324.block, ad324.off + 3, none⟩ = some (.int .i64 (rd t319 3)) ∧ w'.cell? ⟨ad324.block, ad324.off + 4, none⟩ = some (.int .i64 (rd t319 4)) ∧ w'.cell? ⟨ad324.block, ad324.off + 5, none⟩ = some (.int .i64 (rd t319 5))) (ds := []) Qbl Qb rfl rfl ⟨hx324_0, hx325_0, hx326_0, hx327_0, hx328_0, hx329_0⟩ (fun hHeld => ?_); refine lh_ kc_.tab8 kc_.kv_ (fun HT_ HW_ => ?_)
 generalize w36.drew = w37 at HO318 HO323 BK312 HB hx324_0 hx325_0 hx326_0 hx327_0 hx328_0 hx329_0 hHeld ⊢
 refine oc_ (i := 0) (N := some 37) (v := ?_) (a' := ?_) Qbm rfl rfl Qm Qd (Or.inl ⟨by rfl, ?_⟩) ?_ ?_
 rotate_left
 ·exact Qf
 rotate_left
 ·exact Qc
 refine oc_ (i := 1) (N := some 38) (v := ?_) (a' := ?_) Qbn rfl rfl Qm Qd (Or.inl ⟨by rfl, ?_⟩) ?_ ?_
 rotate_left
 ·exact Qf
 rotate_left
 ·exact Qc
 refine oc_ (i := 3) (N := some 40) (v := ?_) (a' := ?_) Qbo rfl rfl Qm Qd (Or.inl ⟨by rfl, ?_⟩) ?_ ?_
 rotate_left
 ·exact Qf
 rotate_left
 ·exact Qc
 refine oc_ (i := 4) (N := some 41) (v := ?_) (a' := ?_) Qbq rfl rfl Qm Qd (Or.inl ⟨by rfl, ?_⟩) ?_ ?_
 rotate_left
 ·exact Qf
 rotate_left
 ·exact Qc
 refine oc_ (i := 7) (N := some 44) (v := ?_) (a' := ?_) Qbr rfl rfl Qm Qd (Or.inl ⟨by rfl, ?_⟩) ?_ ?_
 rotate_left
 ·exact Qf
 rotate_left
 ·exact Qc
 refine oc_ (i := 8) (N := some 45) (v := ?_) (a' := ?_) Qbs rfl rfl Qm Qd (Or.inl ⟨by rfl, ?_⟩) ?_ ?_
 rotate_left
 ·exact Qf
 rotate_left
 ·exact Qc
 refine oc_ (i := 12) (N := some 49) (v := ?_) (a' := ?_) Qbt rfl rfl Qm Qd (Or.inl ⟨by rfl, ?_⟩) ?_ ?_
 rotate_left
 ·exact Qf
 rotate_left
 ·exact Qc
 refine oc_ (i := 13) (N := some 50) (v := ?_) (a' := ?_) Qbu rfl rfl Qm Qd (Or.inl ⟨by rfl, ?_⟩) ?_ ?_
 rotate_left
 ·exact Qf
 rotate_left
 ·exact Qc
 refine oc_ (i := 16) (N := some 53) (v := ?_) (a' := ?_) Qbv rfl rfl Qm Qd (Or.inl ⟨by rfl, ?_⟩) ?_ ?_
 rotate_left
 ·exact Qf
 rotate_left
 ·exact Qc
 refine oc_ (i := 17) (N := some 54) (v := ?_) (a' := ?_) Qbw rfl rfl Qm Qd (Or.inl ⟨by rfl, ?_⟩) ?_ ?_
 rotate_left
 ·exact Qf
 rotate_left
 ·exact Qc
 refine oc_ (i := 19) (N := some 56) (v := ?_) (a' := ?_) Qbx rfl rfl Qm Qd (Or.inl ⟨by rfl, ?_⟩) ?_ ?_
 rotate_left
 ·exact Qf
 rotate_left
 ·exact Qc
 refine oc_ (i := 20) (N := some 57) (v := ?_) (a' := ?_) Qby rfl rfl Qm Qd (Or.inl ⟨by rfl, ?_⟩) ?_ ?_
 rotate_left
 ·exact Qf
 rotate_left
 ·exact Qc
 refine df_ (i := 2) (N := some 39) (v := ?_) (a' := ?_) Qbz rfl rfl (ie_ HT_.out HW_.out Qb) Qd (Or.inl ⟨by rfl, ?_⟩) hHeld ?_ ?_
 rotate_left
 ·exact Qz
 rotate_left
 ·exact Qc
 refine df_ (i := 5) (N := some 42) (v := ?_) (a' := ?_) Qb1 rfl rfl (ie_ HT_.out HW_.out Qb) Qd (Or.inl ⟨by rfl, ?_⟩) hHeld ?_ ?_
 rotate_left
 ·exact Qz
 rotate_left
 ·exact Qc
 refine oc_ (i := 6) (N := some 43) (v := ?_) (a' := ?_) Qb2 rfl rfl Qm Qd (Or.inl ⟨by rfl, ?_⟩) ?_ ?_
 rotate_left
 ·exact Qf
 rotate_left
 ·exact Qc
 refine df_ (i := 9) (N := some 46) (v := ?_) (a' := ?_) Qb3 rfl rfl (ie_ HT_.out HW_.out Qb) Qd (Or.inl ⟨by rfl, ?_⟩) hHeld ?_ ?_
 rotate_left
 ·exact Qz
 rotate_left
 ·exact Qc
 refine oc_ (i := 10) (N := some 47) (v := ?_) (a' := ?_) Qb4 rfl rfl Qm Qd (Or.inl ⟨by rfl, ?_⟩) ?_ ?_
 rotate_left
 ·exact Qf
 rotate_left
 ·exact Qc
 refine oc_ (i := 11) (N := some 48) (v := ?_) (a' := ?_) Qb5 rfl rfl Qm Qd (Or.inl ⟨by rfl, ?_⟩) ?_ ?_
 rotate_left
 ·exact Qf
 rotate_left
 ·exact Qc
 refine df_ (i := 14) (N := some 51) (v := ?_) (a' := ?_) Qb6 rfl rfl (ie_ HT_.out HW_.out Qb) Qd (Or.inl ⟨by rfl, ?_⟩) hHeld ?_ ?_
 rotate_left
 ·exact Qz
 rotate_left
 ·exact Qc
 refine oc_ (i := 15) (N := some 52) (v := ?_) (a' := ?_) Qb7 rfl rfl Qm Qd (Or.inl ⟨by rfl, ?_⟩) ?_ ?_
 rotate_left
 ·exact Qf
 rotate_left
 ·exact Qc
 refine df_ (i := 18) (N := some 55) (v := ?_) (a' := ?_) Qb8 rfl rfl (ie_ HT_.out HW_.out Qb) Qd (Or.inl ⟨by rfl, ?_⟩) hHeld ?_ ?_
 rotate_left
 ·exact Qz
 rotate_left
 ·exact Qc
 refine df_ (i := 21) (N := some 58) (v := ?_) (a' := ?_) Qb9 rfl rfl (ie_ HT_.out HW_.out Qb) Qd (Or.inl ⟨by rfl, ?_⟩) hHeld ?_ ?_
 rotate_left
 ·exact Qz
 rotate_left
 ·exact Qc
 refine oc_ (i := 22) (N := some 59) (v := ?_) (a' := ?_) Qca rfl rfl Qm Qd (Or.inl ⟨by rfl, ?_⟩) ?_ ?_
 rotate_left
 ·exact Qf
 rotate_left
 ·exact Qc
 refine one_ (i := 23) (N := some 12) Qcc rfl rfl Xb Qh (fun K hK => ?_)
 refine bx_ ?hg (N := 12) ?hd (cs := #[.int .i64 0, .int .i64 0, .int .i64 0, .int .i64 0]) (t := 38) ?hr ?_; (case hd => rfl); (case hg => rfl); (case hr => exact Qt)
 intro gb330 hg w39 hbox hb
 have HS0_ := (hb.cell (World.block_lt_of_cell? _ _ (hHeld.1))).trans (hHeld.1)
 have HS1_ := (hb.cell (World.block_lt_of_cell? _ _ (hHeld.2.1))).trans (hHeld.2.1)
 have HS2_ := (hb.cell (World.block_lt_of_cell? _ _ (hHeld.2.2.1))).trans (hHeld.2.2.1)
 have HS3_ := (hb.cell (World.block_lt_of_cell? _ _ (hHeld.2.2.2.1))).trans (hHeld.2.2.2.1)
 have HS4_ := (hb.cell (World.block_lt_of_cell? _ _ (hHeld.2.2.2.2.1))).trans (hHeld.2.2.2.2.1)
 have HS5_ := (hb.cell (World.block_lt_of_cell? _ _ (hHeld.2.2.2.2.2))).trans (hHeld.2.2.2.2.2)
 have n0_ := ba_.mk (Kd.ne_ (Ql HO318.out) hb)
 have n1_ := ba_.mk (Kd.ne_ (Ql HO323.out) hb)
 have n2_ := ba_.mk (ed_ (g := gb312) (o := .cells #[.int .i64 0, .int .i64 0, .int .i64 0, .int .i64 0] 38 (0, 0)) (Qr BK312.out) hb)
 have n3_ := ba_.mk (wa_ Q1 hb)
 have n4_ := ba_.mk (hbox)
 have n5_ := ba_.mk ((by rw [hg]; exact (za_ Q1) : w.heap.size ≤ gb330))
 have n6_ := ba_.mk ((by rw [hg]; exact (za_ Q1) : w.heap.size ≤ gb330))
 have n7_ := ba_.mk ((by rw [hg]; exact Nat.ne_of_lt (fj_ (g := gb312) (o := .cells #[.int .i64 0, .int .i64 0, .int .i64 0, .int .i64 0] 38 (0, 0)) (Qr BK312.out)) : gb312 ≠ gb330))
 have n8_ := ba_.mk ((by rw [hg]; exact Nat.ne_of_gt (fj_ (g := gb312) (o := .cells #[.int .i64 0, .int .i64 0, .int .i64 0, .int .i64 0] 38 (0, 0)) (Qr BK312.out)) : gb330 ≠ gb312))
 clear HO318
 clear HO323
 clear BK312
 clear HB
 have HO318 := n0_
 have HO323 := n1_
 have BK312 := n2_
 have HB := n3_
 have BK330 := n4_
 have GW330 := n5_
 have GE330 := n6_
 have NB312_330 := n7_
 have NB330_312 := n8_
 clear n0_ n1_ n2_ n3_ n4_ n5_ n6_ n7_ n8_
 clear hb hbox hg
 refine hK.out _ _ ⟨HS0_, HS1_, HS2_, HS3_, HS4_, HS5_⟩ (fun hHeld => ?_)
 clear hK K
 refine kk_ (a' := ?_) ?_ ?_
 rotate_left
 ·show Act.put _ (some 12) _ = _
  simp only [Act.put, List.setIfInBounds_toArray, List.set_cons_zero, List.set_cons_succ, yb_, ac_]
  rfl
 refine one_ (i := 24) (N := none) Qcd rfl rfl Xb Qh (fun K hK => ?_)
 have hs40 : w39.cell? ⟨gb330, 0, none⟩ = some (.int .i64 0) := (mb_ BK330.out 0).trans rfl
 have hfs40 := qa_ BK330.out 0
 have hns40_0 := NB312_330.out
 have hms40_0 := NB330_312.out
 have hs41 : w39.cell? ⟨gb330, 1, none⟩ = some (.int .i64 0) := (mb_ BK330.out 1).trans rfl
 have hfs41 := qa_ BK330.out 1
 have hns41_0 := NB312_330.out
 have hms41_0 := NB330_312.out
 have hs42 : w39.cell? ⟨gb330, 2, none⟩ = some (.int .i64 0) := (mb_ BK330.out 2).trans rfl
 have hfs42 := qa_ BK330.out 2
 have hns42_0 := NB312_330.out
 have hms42_0 := NB330_312.out
 have hs43 : w39.cell? ⟨gb330, 3, none⟩ = some (.int .i64 0) := (mb_ BK330.out 3).trans rfl
 have hfs43 := qa_ BK330.out 3
 have hns43_0 := NB312_330.out
 have hms43_0 := NB330_312.out
 refine xl_ (w1 := ?_) (by rfl) rfl ?_ ?_
 rotate_left
 ·go_simp
  rfl
 refine hK.out _ _ ⟨((cell_far (p := ⟨gb330, _, none⟩) Qv _).trans (((cell_far (p := ⟨gb330, _, none⟩) Qv _).trans (((cell_far (p := ⟨gb330, _, none⟩) Qv _).trans (((cell_far (p := ⟨gb330, _, none⟩) Qv _).trans (hHeld.1)))))))), ((cell_far (p := ⟨gb330, _, none⟩) Qv _).trans (((cell_far (p := ⟨gb330, _, none⟩) Qv _).trans (((cell_far (p := ⟨gb330, _, none⟩) Qv _).trans (((cell_far (p := ⟨gb330, _, none⟩) Qv _).trans (hHeld.2.1)))))))), ((cell_far (p := ⟨gb330, _, none⟩) Qv _).trans (((cell_far (p := ⟨gb330, _, none⟩) Qv _).trans (((cell_far (p := ⟨gb330, _, none⟩) Qv _).trans (((cell_far (p := ⟨gb330, _, none⟩) Qv _).trans (hHeld.2.2.1)))))))), ((cell_far (p := ⟨gb330, _, none⟩) Qv _).trans (((cell_far (p := ⟨gb330, _, none⟩) Qv _).trans (((cell_far (p := ⟨gb330, _, none⟩) Qv _).trans (((cell_far (p := ⟨gb330, _, none⟩) Qv _).trans (hHeld.2.2.2.1)))))))), ((cell_far (p := ⟨gb330, _, none⟩) Qv _).trans (((cell_far (p := ⟨gb330, _, none⟩) Qv _).trans (((cell_far (p := ⟨gb330, _, none⟩) Qv _).trans (((cell_far (p := ⟨gb330, _, none⟩) Qv _).trans (hHeld.2.2.2.2.1)))))))), ((cell_far (p := ⟨gb330, _, none⟩) Qv _).trans (((cell_far (p := ⟨gb330, _, none⟩) Qv _).trans (((cell_far (p := ⟨gb330, _, none⟩) Qv _).trans (((cell_far (p := ⟨gb330, _, none⟩) Qv _).trans (hHeld.2.2.2.2.2))))))))⟩ (fun hHeld => ?_)
 clear hK K
 refine jk_ Xw ?_
 have hnb44 := NB330_312.out
 have hnc44 := NB312_330.out
 have hcz45_0 : w39.cell? ⟨gb330, 0, none⟩ = some (.int .i64 0) := (mb_ BK330.out 0).trans rfl
 have hcz45_1 : w39.cell? ⟨gb330, 1, none⟩ = some (.int .i64 0) := (mb_ BK330.out 1).trans rfl
 have hcz45_2 : w39.cell? ⟨gb330, 2, none⟩ = some (.int .i64 0) := (mb_ BK330.out 2).trans rfl
 have hcz45_3 : w39.cell? ⟨gb330, 3, none⟩ = some (.int .i64 0) := (mb_ BK330.out 3).trans rfl
 have hfz45_0 := qa_ BK330.out 0
 have hfz45_1 := qa_ BK330.out 1
 have hfz45_2 := qa_ BK330.out 2
 have hfz45_3 := qa_ BK330.out 3
 try go_wp2_with (first | ((with_reducible refine ia_ (f := 60) rfl ?_); refine gc_ (some 61) rfl rfl Tryz.func60 Qb rfl #[.agg #[.int .i64 (rd t319 0), .int .i64 (wrap64 ((wrap64 ((wrap64 (1024 * (rd t319 1))) + (wrap64 (32 * (rd t319 2))))) + (rd t319 3))), .int .i64 (rd t319 4), .int .i64 (rd t319 5)]] rfl Qj ?_; (with_reducible refine (dd_.calls (rd t319 0) (wrap64 ((wrap64 ((wrap64 (1024 * (rd t319 1))) + (wrap64 (32 * (rd t319 2))))) + (rd t319 3))) (rd t319 4) (rd t319 5) false _ A13.out).mono ?_); rintro e w46 ⟨rfl, hb⟩; refine ⟨_, rfl, ?_⟩; have n0_ := ba_.mk (Kd.ne_ (by (with_reducible repeat (first | apply Kd.eb_ | apply Kd.fb_ | apply Kd.rb_)); exact (Kd.rd_ (Kd.jf_ (p := ⟨gb330, 3, none⟩) (Kd.jf_ (p := ⟨gb330, 2, none⟩) (Kd.jf_ (p := ⟨gb330, 1, none⟩) (Kd.jf_ (p := ⟨gb330, 0, none⟩) (Kd.th_ HO318.out BK330.out Qh) (fun _ hk => hk.2) (.int .i64 (rd t319 0))) (fun _ hk => hk.2) (.int .i64 (wrap64 ((wrap64 ((wrap64 (1024 * (rd t319 1))) + (wrap64 (32 * (rd t319 2))))) + (rd t319 3))))) (fun _ hk => hk.2) (.int .i64 (rd t319 4))) (fun _ hk => hk.2) (.int .i64 (rd t319 5))) (fun _ h_ => h_.1))) hb); have n1_ := ba_.mk (Kd.ne_ (by (with_reducible repeat (first | apply Kd.eb_ | apply Kd.fb_ | apply Kd.rb_)); exact (Kd.rd_ (Kd.jf_ (p := ⟨gb330, 3, none⟩) (Kd.jf_ (p := ⟨gb330, 2, none⟩) (Kd.jf_ (p := ⟨gb330, 1, none⟩) (Kd.jf_ (p := ⟨gb330, 0, none⟩) (Kd.th_ HO323.out BK330.out Qh) (fun _ hk => hk.2) (.int .i64 (rd t319 0))) (fun _ hk => hk.2) (.int .i64 (wrap64 ((wrap64 ((wrap64 (1024 * (rd t319 1))) + (wrap64 (32 * (rd t319 2))))) + (rd t319 3))))) (fun _ hk => hk.2) (.int .i64 (rd t319 4))) (fun _ hk => hk.2) (.int .i64 (rd t319 5))) (fun _ h_ => h_.1))) hb); have n2_ := ba_.mk (ed_ (g := gb312) (o := .cells #[.int .i64 0, .int .i64 0, .int .i64 0, .int .i64 0] 38 (0, 0)) (by (with_reducible repeat (first | refine db_ ?_ _ | refine pb_ ?_ | refine cb_ ?_ _)); refine uh_ ?_ NB312_330.out _; (with_reducible repeat (first | refine db_ ?_ _ | refine pb_ ?_ | refine cb_ ?_ _)); refine uh_ ?_ NB312_330.out _; (with_reducible repeat (first | refine db_ ?_ _ | refine pb_ ?_ | refine cb_ ?_ _)); refine uh_ ?_ NB312_330.out _; (with_reducible repeat (first | refine db_ ?_ _ | refine pb_ ?_ | refine cb_ ?_ _)); refine uh_ ?_ NB312_330.out _; (with_reducible repeat (first | refine db_ ?_ _ | refine pb_ ?_ | refine cb_ ?_ _)); exact BK312.out) hb); have n3_ := ba_.mk (ed_ (g := gb330) (o := .cells #[.int .i64 (rd t319 0), .int .i64 (wrap64 ((wrap64 ((wrap64 (1024 * (rd t319 1))) + (wrap64 (32 * (rd t319 2))))) + (rd t319 3))), .int .i64 (rd t319 4), .int .i64 (rd t319 5)] 38 (0, 0)) (by (with_reducible repeat (first | refine db_ ?_ _ | refine pb_ ?_ | refine cb_ ?_ _)); refine od_ (cs := #[.int .i64 (rd t319 0), .int .i64 (wrap64 ((wrap64 ((wrap64 (1024 * (rd t319 1))) + (wrap64 (32 * (rd t319 2))))) + (rd t319 3))), .int .i64 (rd t319 4), .int .i64 0]) ?_ 3 _ rfl; (with_reducible repeat (first | refine db_ ?_ _ | refine pb_ ?_ | refine cb_ ?_ _)); refine od_ (cs := #[.int .i64 (rd t319 0), .int .i64 (wrap64 ((wrap64 ((wrap64 (1024 * (rd t319 1))) + (wrap64 (32 * (rd t319 2))))) + (rd t319 3))), .int .i64 0, .int .i64 0]) ?_ 2 _ rfl; (with_reducible repeat (first | refine db_ ?_ _ | refine pb_ ?_ | refine cb_ ?_ _)); refine od_ (cs := #[.int .i64 (rd t319 0), .int .i64 0, .int .i64 0, .int .i64 0]) ?_ 1 _ rfl; (with_reducible repeat (first | refine db_ ?_ _ | refine pb_ ?_ | refine cb_ ?_ _)); refine od_ (cs := #[.int .i64 0, .int .i64 0, .int .i64 0, .int .i64 0]) ?_ 0 _ rfl; (with_reducible repeat (first | refine db_ ?_ _ | refine pb_ ?_ | refine cb_ ?_ _)); exact BK330.out) hb); have n4_ := ba_.mk (wa_ Yo hb); clear HO318; clear HO323; clear BK312; clear BK330; clear HB; have HO318 := n0_; have HO323 := n1_; have BK312 := n2_; have BK330 := n3_; have HB := n4_; clear n0_ n1_ n2_ n3_ n4_; (try clear hb); (try clear hb2); (try clear hk); (try clear hi); have hcz47_0 : w46.cell? ⟨gb312, 0, none⟩ = some (.int .i64 0) := (mb_ BK312.out 0).trans rfl; have hcz47_1 : w46.cell? ⟨gb312, 1, none⟩ = some (.int .i64 0) := (mb_ BK312.out 1).trans rfl; have hcz47_2 : w46.cell? ⟨gb312, 2, none⟩ = some (.int .i64 0) := (mb_ BK312.out 2).trans rfl; have hcz47_3 : w46.cell? ⟨gb312, 3, none⟩ = some (.int .i64 0) := (mb_ BK312.out 3).trans rfl; have hfz47_0 := qa_ BK312.out 0; have hfz47_1 := qa_ BK312.out 1; have hfz47_2 := qa_ BK312.out 2; have hfz47_3 := qa_ BK312.out 3))
 refine bodyPost_ret (jg_ rfl _ _ gb312 38 #[.int .i64 0, .int .i64 0, .int .i64 0, .int .i64 0] (0, 0) _ rfl (by (with_reducible repeat (first | refine db_ ?_ _ | refine pb_ ?_ | refine cb_ ?_ _)); refine od_ (cs := #[.int .i64 0, .int .i64 0, .int .i64 0, .int .i64 0]) ?_ 3 _ rfl; (with_reducible repeat (first | refine db_ ?_ _ | refine pb_ ?_ | refine cb_ ?_ _)); refine od_ (cs := #[.int .i64 0, .int .i64 0, .int .i64 0, .int .i64 0]) ?_ 2 _ rfl; (with_reducible repeat (first | refine db_ ?_ _ | refine pb_ ?_ | refine cb_ ?_ _)); refine od_ (cs := #[.int .i64 0, .int .i64 0, .int .i64 0, .int .i64 0]) ?_ 1 _ rfl; (with_reducible repeat (first | refine db_ ?_ _ | refine pb_ ?_ | refine cb_ ?_ _)); refine od_ (cs := #[.int .i64 0, .int .i64 0, .int .i64 0, .int .i64 0]) ?_ 0 _ rfl; (with_reducible repeat (first | refine db_ ?_ _ | refine pb_ ?_ | refine cb_ ?_ _)); exact BK312.out) Tryz.underlying38 rfl Qb) rfl ?_
 exact ⟨Qq, Yo⟩
end Go.Proofs.YtpkhgapifnjbeaaGreatDoor.T
end
section
namespace Go.Proofs.YtpkhgapifnjbeaaGreatDoor.T
open RowKit G Rs Zw.PrintWords Zw.PrintLast Zw.PrintMore
attribute [local go_sem] id_ kd_ vd_ wd_ bd_ cd_ jd_ ld_
attribute [local go_sem high] eqA38
def ab_.l0 : Nat → List ByteArray → Int → Option (Bool)
 | 0, _, _ => none
 | k + 1, x6, x7 => if x7 < 4 then (if 0 ≤ x7 then (if x7 < (x6.length : Int) then ((ee_.f (rdOf ByteArray.empty x6 x7)).bind fun bt346 => ((kc_.f k (rdOf ByteArray.empty x6 x7)).bind fun bt354 => (if (!(bt346.1 == bt354.1) || (!(bt346.2.1 == bt354.2.1) || (!(bt346.2.2.1 == bt354.2.2.1) || (!(bt346.2.2.2.1 == bt354.2.2.2.1))))) = true then (some false) else (if bt346.2.2.2.2.1 = bt354.2.2.2.2.1 then (if bt346.2.2.2.2.2 = bt354.2.2.2.2.2 then (ab_.l0 k x6 (wrap64 (x7 + 1))) else (some false)) else (some false))))) else (none)) else (none)) else ((pe_.f).bind fun t344 => (some t344))
def ab_.f (k : Nat) (l0 : List Int) (a1 : ByteArray) : Option (Bool) := (se_.f l0).bind fun bt332 => ((na_.f k bt332.1 bt332.2 4).bind fun bt335 => ((na_.f k bt332.1 bt335.2 12).bind fun bt337 => ((qb_.f k bt332.1 bt337.2).bind fun bt339 => (ab_.l0 k (([bt335.1, bt337.1, bt339.1, a1] : List ByteArray)) 0))))
theorem ab_.yc_ : ∀ k, (∀ y0 y1, LeO (ab_.l0 k y0 y1) (ab_.l0 (k + 1) y0 y1))
 | 0 => fun _ _ r h => by simp [ab_.l0] at h
 | k + 1 => by
  have ih0 := ab_.yc_ k
  intro y0 y1
  unfold ab_.l0
  repeat' first
  | (with_reducible exact ih0 _ _)
  | (with_reducible exact na_.mono _ _ _ _)
  | (with_reducible exact qb_.mono _ _ _)
  | (with_reducible exact kc_.mono _ _)
  | (with_reducible first | exact LeO.refl _ | exact LeO.none _ | refine LeO.ite ?_ ?_ | refine LeO.bind ?_ (fun _ => ?_))
  | exact ih0 _ _
  | exact na_.mono _ _ _ _
  | exact qb_.mono _ _ _
  | exact kc_.mono _ _
  | exact LeO.none _
  | refine LeO.ite ?_ ?_
  | refine LeO.bind ?_ (fun _ => ?_)
theorem ab_.mono : ∀ a0 a1 k, LeO (ab_.f k a0 a1) (ab_.f (k + 1) a0 a1) := by
 intro a0 a1 k
 have ih0 := ab_.yc_ k
 unfold ab_.f
 repeat' first
   | (with_reducible exact ih0 _ _)
   | (with_reducible exact na_.mono _ _ _ _)
   | (with_reducible exact qb_.mono _ _ _)
   | (with_reducible exact kc_.mono _ _)
   | (with_reducible first | exact LeO.refl _ | exact LeO.none _ | refine LeO.ite ?_ ?_ | refine LeO.bind ?_ (fun _ => ?_))
   | exact ih0 _ _
   | exact na_.mono _ _ _ _
   | exact qb_.mono _ _ _
   | exact kc_.mono _ _
   | exact LeO.none _
   | refine LeO.ite ?_ ?_
   | refine LeO.bind ?_ (fun _ => ?_)
set_option maxHeartbeats 8000000 in
set_option maxRecDepth 100000 in
theorem ab_.calls (k : Nat) (A0 : Option Addr) (c0 : Nat) (l0 : List Int) (a1 : ByteArray) (r : Bool) (w : World) (hr0 : Kd.C (Kd.int .i64) w A0 l0.length l0) (hc0 : l0.length ≤ c0) (h : ab_.f k l0 a1 = some r) (hr_ : r = true) :
  Calls Tryz.prog 7 #[.slice A0 l0.length c0, .string a1] w fun e w' => e = .returned (.bool r) ∧ Below w.heap.size w w' := by
 have HRT := ba_.mk hr_
 clear hr_
 have hu38 := Tryz.underlying38
 have HR0 := ba_.mk hr0
 have HC0 := ba_.mk hc0
 clear hr0 hc0
 have HB := ba_.mk (Below.refl w.heap.size w)
 have H : ((se_.f l0).bind fun bt332 => ((na_.f k bt332.1 bt332.2 4).bind fun bt335 => ((na_.f k bt332.1 bt335.2 12).bind fun bt337 => ((qb_.f k bt332.1 bt337.2).bind fun bt339 => (ab_.l0 k (([bt335.1, bt337.1, bt339.1, a1] : List ByteArray)) 0))))) = some r := h
 clear h
 obtain ⟨⟨t332, t333⟩, A3, H⟩ := Qk H
 try dsimp only at H
 obtain ⟨⟨t335, t336⟩, A4, H⟩ := Qk H
 try dsimp only at H
 obtain ⟨⟨t337, t338⟩, A5, H⟩ := Qk H
 try dsimp only at H
 obtain ⟨⟨t339, t340⟩, A6, H⟩ := Qk H
 try dsimp only at H
 obtain ⟨y341, hy341⟩ : ∃ y_ : List ByteArray, y_ = (([t335, t337, t339, a1] : List ByteArray)) := ⟨_, rfl⟩
 replace H : (ab_.l0 k y341 0) = some r := by first | (rw [hy341]; with_reducible exact H) | (have H2_ := (Option.bind_some _ _).symm.trans H; rw [hy341]; with_reducible exact H2_) | (have H2_ := (Option.bind_some _ _).symm.trans H; with_reducible exact H2_) | with_reducible exact H | (rw [hy341]; exact H) | exact H
 have Ny341 := ba_.mk hy341
 clear hy341
 have H' := ba_.mk H
 clear H
 go_enter Tryz.func7, Tryz.ntmps7
 go_wp2_with (first | ((with_reducible refine ia_ (f := 8) rfl ?_); refine gc_ (some 15) rfl rfl Tryz.func8 Qb rfl #[.slice A0 l0.length c0] rfl Qj ?_; (with_reducible refine (se_.calls _ _ l0 t332 t333 w _ ?side1 ?side2 ?side3 A3.out).mono ?_); (case side1 => repeat (first | (with_reducible first | exact HB.out | apply da_ | apply aa_ | apply ca_) | exact HB.out)); (case side2 => exact HR0.out); (case side3 => exact HC0.out); rintro e w7 ⟨g334, rfl, hi, hb, hb2⟩; refine ⟨_, rfl, ?_⟩; have n0_ := ba_.mk (hb); have n1_ := ba_.mk (hi); clear HB; have HB := n0_; have HI334 := n1_; clear n0_ n1_; (try clear hb); (try clear hb2); (try clear hk); (try clear hi)) | ((with_reducible refine ia_ (f := 23) rfl ?_); refine gc_ (some 17) rfl rfl Tryz.func23 Qb rfl #[.pointer (some ⟨g334, 0, none⟩), .int .i64 4] rfl Qj ?_; (with_reducible refine (na_.calls k g334 t332 t333 4 t335 t336 w _ ?side1 ?side2 A4.out).mono ?_); (case side1 => repeat (first | (with_reducible first | exact HI334.out | apply ya_.alloc | apply ya_.drewN | apply ya_.drew | apply ya_.je_) | exact HI334.out)); (case side2 => repeat (first | (with_reducible first | exact HB.out | apply da_ | apply aa_ | apply ca_ | refine sa_ ?_ (ya_.ge HI334.out)) | exact HB.out)); rintro e w8 ⟨rfl, hi, hb, hk⟩; refine ⟨_, rfl, ?_⟩; have n0_ := ba_.mk (hb); have n1_ := ba_.mk (hi); clear HB; clear HI334; have HB := n0_; have HI334 := n1_; clear n0_ n1_; (try clear hb); (try clear hb2); (try clear hk); (try clear hi)) | ((with_reducible refine ia_ (f := 23) rfl ?_); refine gc_ (some 19) rfl rfl Tryz.func23 Qb rfl #[.pointer (some ⟨g334, 0, none⟩), .int .i64 12] rfl Qj ?_; (with_reducible refine (na_.calls k g334 t332 t336 12 t337 t338 w _ ?side1 ?side2 A5.out).mono ?_); (case side1 => repeat (first | (with_reducible first | exact HI334.out | apply ya_.alloc | apply ya_.drewN | apply ya_.drew | apply ya_.je_) | exact HI334.out)); (case side2 => repeat (first | (with_reducible first | exact HB.out | apply da_ | apply aa_ | apply ca_ | refine sa_ ?_ (ya_.ge HI334.out)) | exact HB.out)); rintro e w9 ⟨rfl, hi, hb, hk⟩; refine ⟨_, rfl, ?_⟩; have n0_ := ba_.mk (hb); have n1_ := ba_.mk (hi); clear HB; clear HI334; have HB := n0_; have HI334 := n1_; clear n0_ n1_; (try clear hb); (try clear hb2); (try clear hk); (try clear hi)) | ((with_reducible refine ia_ (f := 24) rfl ?_); refine gc_ (some 21) rfl rfl Tryz.func24 Qb rfl #[.pointer (some ⟨g334, 0, none⟩)] rfl Qj ?_; (with_reducible refine (qb_.calls k g334 t332 t338 t339 t340 w _ ?side1 ?side2 A6.out).mono ?_); (case side1 => repeat (first | (with_reducible first | exact HI334.out | apply ya_.alloc | apply ya_.drewN | apply ya_.drew | apply ya_.je_) | exact HI334.out)); (case side2 => repeat (first | (with_reducible first | exact HB.out | apply da_ | apply aa_ | apply ca_ | refine sa_ ?_ (ya_.ge HI334.out)) | exact HB.out)); rintro e w10 ⟨rfl, hi, hb, hk⟩; refine ⟨_, rfl, ?_⟩; have n0_ := ba_.mk (hb); have n1_ := ba_.mk (hi); clear HB; clear HI334; have HB := n0_; have HI334 := n1_; clear n0_ n1_; (try clear hb); (try clear hb2); (try clear hk); (try clear hi)) | ((with_reducible refine md_ (N := 23) rfl ?_); refine Kd.sm_ Kd.string _ 9 ?hg (N := 23) ?hd (xs := ([t335, t337, t339, a1] : List ByteArray)) (inner := [.string t335, .string t337, .string t339, .string a1]) (ok := fun _ => True) (okp := fun _ => True) ?hr ?hp (fun _ hk => hk) trivial (Below.refl _ _) (Nat.le_refl _) Qo ?_; (case hd => rfl); (case hg => rfl); (case hr => exact Qt); (case hp => exact (Reps.one (show Kd.M Kd.string _ _ _ t335 [.string t335] from rfl) (Reps.one (show Kd.M Kd.string _ _ _ t337 [.string t337] from rfl) (Reps.one (show Kd.M Kd.string _ _ _ t339 [.string t339] from rfl) (Reps.one (show Kd.M Kd.string _ _ _ a1 [.string a1] from rfl) (Reps.none _ _)))))); intro v342 w11 ho12 hb hg_ hnew_; clear hg_ hnew_; (first | rw [← Ny341.out] at ho12 | (simp only [Int.reduceToNat] at ho12; rw [← Ny341.out] at ho12)); have n0_ := ba_.mk (Kd.td_ ho12 (za_ (by repeat (first | (with_reducible first | exact HB.out | apply da_ | apply aa_ | apply ca_ | refine sa_ ?_ (ya_.ge HI334.out)) | exact HB.out)))); have n1_ := ba_.mk (ya_.below (by repeat (first | (with_reducible first | exact HI334.out | apply ya_.alloc | apply ya_.drewN | apply ya_.drew | apply ya_.je_) | exact HI334.out)) hb); have n2_ := ba_.mk (wa_ (by repeat (first | (with_reducible first | exact HB.out | apply da_ | apply aa_ | apply ca_ | refine sa_ ?_ (ya_.ge HI334.out)) | exact HB.out)) hb); clear HI334; clear HB; have HO343 := n0_; have HI334 := n1_; have HB := n2_; clear n0_ n1_ n2_; clear hb ho12))
 go_loopg [7] k (fun kq v7 w' => ∃ (x7_1 : Int), v7 = .int .i64 x7_1 ∧ ba_ (ab_.l0 kq y341 x7_1 = some r) ∧ ba_ (kq ≤ k) ∧ ba_ (Kd.R Kd.string 9 w' w.heap.size (fun _ => True) v342 y341) ∧ ba_ (Below w.heap.size w w'))
 case atStart => exact ⟨(0), Qi, H', ⟨Nat.le_refl _⟩, ⟨by (with_reducible repeat (first | apply Kd.eb_ | apply Kd.fb_ | apply Kd.rb_)); exact HO343.out⟩, ⟨by repeat (first | (with_reducible first | exact HB.out | apply da_ | apply aa_ | apply ca_ | refine sa_ ?_ (ya_.ge HI334.out)) | exact HB.out)⟩⟩
 case round =>
  clear H'
  try clear c2
  try clear p2
  try clear c7
  try clear c8
  obtain ⟨x7_1, rfl, HA, HK1, HO_6, HB⟩ := hrel
  cases gk with
  | zero => exact absurd HA.out (by simp [ab_.l0])
  | succ k1 =>
   have H := HA.out
   clear HA
   simp only [ab_.l0] at H
   by_cases c13 : x7_1 < 4
   rotate_left
   ·rw [if_neg c13] at H
    have c13b0 := decide_eq_false c13
    clear c13
    obtain ⟨t344, A57, H⟩ := Qk H
    try dsimp only at H
    obtain rfl := Option.some.inj H
    go_wp2_with (first | ((with_reducible refine ia_ (f := 22) rfl ?_); refine gc_ (some 59) rfl rfl Tryz.func22 Qb rfl #[] rfl Qj ?_; (with_reducible refine (pe_.calls  t344 _ A57.out HRT.out).mono ?_); rintro e w58 ⟨rfl, hb⟩; refine ⟨_, rfl, ?_⟩; have n0_ := ba_.mk (Kd.ne_ (Ql HO_6.out) hb); have n1_ := ba_.mk (wa_ Qe hb); clear HO_6; clear HB; have HO_6 := n0_; have HB := n1_; clear n0_ n1_; (try clear hb); (try clear hb2); (try clear hk); (try clear hi)))
    go_ret
    exact ⟨Qq, Qe⟩
   rw [if_pos c13] at H
   have c13b0 := decide_eq_true c13
   clear c13
   obtain ⟨c14, H⟩ := Qn H
   have c14b0 := decide_eq_true c14
   clear c14
   obtain ⟨c15, H⟩ := Qn H
   have c15b0 := decide_eq_true c15
   clear c15
   obtain ⟨⟨t346, t347, t348, t349, t350, t351⟩, A16, H⟩ := Qk H
   try dsimp only at H
   obtain ⟨⟨t354, t355, t356, t357, t358, t359⟩, A17, H⟩ := Qk H
   try dsimp only at H
   by_cases c18 : (!(t346 == t354) || (!(t347 == t355) || (!(t348 == t356) || (!(t349 == t357))))) = true
   ·rw [if_pos c18] at H
    have c18b0 : (!(t346 == t354) || (!(t347 == t355) || (!(t348 == t356) || (!(t349 == t357))))) = true := c18
    clear c18
    exact absurd ((Option.some.inj H).trans HRT.out) Qh
   rw [if_neg c18] at H
   have c18b0 : (!(t346 == t354) || (!(t347 == t355) || (!(t348 == t356) || (!(t349 == t357))))) = false := by simpa using c18
   clear c18
   by_cases c28 : t350 = t358
   rotate_left
   ·rw [if_neg c28] at H
    have c28b0 : (t350 == t358) = false := beq_eq_false_iff_ne.mpr c28
    have c28b1 : (t350 != t358) = true := bne_iff_ne.mpr c28
    exact absurd ((Option.some.inj H).trans HRT.out) Qh
   rw [if_pos c28] at H
   have c28b0 : (t350 == t358) = true := beq_iff_eq.mpr c28
   have c28b1 : (t350 != t358) = false := bne_eq_false_iff_eq.mpr c28
   clear c28
   by_cases c29 : t351 = t359
   rotate_left
   ·rw [if_neg c29] at H
    have c29b0 : (t351 == t359) = false := beq_eq_false_iff_ne.mpr c29
    have c29b1 : (t351 != t359) = true := bne_iff_ne.mpr c29
    exact absurd ((Option.some.inj H).trans HRT.out) Qh
   rw [if_pos c29] at H
   have c29b0 : (t351 == t359) = true := beq_iff_eq.mpr c29
   have c29b1 : (t351 != t359) = false := bne_eq_false_iff_eq.mpr c29
   clear c29
   have H' := ba_.mk H
   clear H
   obtain ⟨Ao30, co30, eo30⟩ := Kd.pd_ HO_6.out
   subst eo30
   have p345 : 0 ≤ (x7_1 : Int) := of_decide_eq_true Qg
   have q345 : x7_1 < (y341.length : Int) := of_decide_eq_true Qg
   obtain ⟨ad345, e345, hx345_0⟩ := Kd.mk_ (Kd.cc_ HO_6.out).2.2 x7_1 p345 q345
   cases e345
   replace p345 := eq_true p345
   replace q345 := eq_true q345
   go_wp2_with (first | ((with_reducible refine ia_ (f := 15) rfl ?_); refine gc_ (some 33) rfl rfl Tryz.func15 Qb rfl #[.string (rdOf ByteArray.empty y341 x7_1)] rfl Qj ?_; (with_reducible refine (ee_.calls (rdOf ByteArray.empty y341 x7_1) t346 t347 t348 t349 t350 t351 _ A16.out).mono ?_); rintro e w31 ⟨rfl, hb⟩; refine ⟨_, rfl, ?_⟩; have n0_ := ba_.mk (Kd.ne_ (Ql HO_6.out) hb); have n1_ := ba_.mk (wa_ Qe hb); clear HO_6; clear HB; have HO_6 := n0_; have HB := n1_; clear n0_ n1_; (try clear hb); (try clear hb2); (try clear hk); (try clear hi)) | ((with_reducible refine md_ (N := 8) rfl ?_); refine fe_ ?hg (N := 8) ?hd (cs := #[.int .i64 0, .int .i64 0, .int .i64 0, .int .i64 0]) (t := 38) ?hr ?_; (case hd => rfl); (case hg => rfl); (case hr => exact Qt); intro gb352 hg w32 hbox hb; have n0_ := ba_.mk (Kd.ne_ (Ql HO_6.out) hb); have n1_ := ba_.mk (wa_ Qe hb); have n2_ := ba_.mk (hbox); have n3_ := ba_.mk ((by rw [hg]; exact (za_ Qe) : w.heap.size ≤ gb352)); have n4_ := ba_.mk ((by rw [hg]; exact (za_ Qe) : w.heap.size ≤ gb352)); clear HO_6; clear HB; have HO_6 := n0_; have HB := n1_; have BK352 := n2_; have GW352 := n3_; have GE352 := n4_; clear n0_ n1_ n2_ n3_ n4_; clear hb hbox hg; have hcz33_0 : w32.cell? ⟨gb352, 0, none⟩ = some (.int .i64 0) := (mb_ BK352.out 0).trans rfl; have hcz33_1 : w32.cell? ⟨gb352, 1, none⟩ = some (.int .i64 0) := (mb_ BK352.out 1).trans rfl; have hcz33_2 : w32.cell? ⟨gb352, 2, none⟩ = some (.int .i64 0) := (mb_ BK352.out 2).trans rfl; have hcz33_3 : w32.cell? ⟨gb352, 3, none⟩ = some (.int .i64 0) := (mb_ BK352.out 3).trans rfl; have hfz33_0 := qa_ BK352.out 0; have hfz33_1 := qa_ BK352.out 1; have hfz33_2 := qa_ BK352.out 2; have hfz33_3 := qa_ BK352.out 3; have p353 : 0 ≤ (x7_1 : Int) := of_decide_eq_true Qg; have q353 : x7_1 < (y341.length : Int) := of_decide_eq_true Qg; obtain ⟨ad353, e353, hx353_0⟩ := Kd.mk_ (Kd.cc_ HO_6.out).2.2 x7_1 p353 q353; obtain rfl : ad345 = ad353 := (by injection e353); have hn353_0 : ad345.block ≠ gb352 := Kd.ha_ (Kd.R_ne HO_6.out BK352.out Qh); have hn353_1 : ad345.block ≠ gb352 := Kd.ha_ (Kd.R_ne HO_6.out BK352.out Qh); have hn353_2 : ad345.block ≠ gb352 := Kd.ha_ (Kd.R_ne HO_6.out BK352.out Qh); have hn353_3 : ad345.block ≠ gb352 := Kd.ha_ (Kd.R_ne HO_6.out BK352.out Qh); replace hx353_0 := (cell_far (p := ⟨gb352, 0, none⟩) (by first | (rw [oa_]; exact hn353_0) | (show (Addr.add _ _).block ≠ _; rw [oa_]; exact hn353_0) | exact hn353_0) (.int .i64 t346)).trans hx353_0; replace hx353_0 := (cell_far (p := ⟨gb352, 1, none⟩) (by first | (rw [oa_]; exact hn353_1) | (show (Addr.add _ _).block ≠ _; rw [oa_]; exact hn353_1) | exact hn353_1) (.int .i64 t347)).trans hx353_0; replace hx353_0 := (cell_far (p := ⟨gb352, 2, none⟩) (by first | (rw [oa_]; exact hn353_2) | (show (Addr.add _ _).block ≠ _; rw [oa_]; exact hn353_2) | exact hn353_2) (.int .i64 t348)).trans hx353_0; replace hx353_0 := (cell_far (p := ⟨gb352, 3, none⟩) (by first | (rw [oa_]; exact hn353_3) | (show (Addr.add _ _).block ≠ _; rw [oa_]; exact hn353_3) | exact hn353_3) (.int .i64 t349)).trans hx353_0; clear hn353_0; clear hn353_1; clear hn353_2; clear hn353_3; replace p353 := eq_true p353; replace q353 := eq_true q353) | ((with_reducible refine ia_ (f := 29) rfl ?_); refine gc_ (some 42) rfl rfl Tryz.func29 Qb rfl #[.string (rdOf ByteArray.empty y341 x7_1)] rfl Qj ?_; (with_reducible refine (kc_.calls k1 (rdOf ByteArray.empty y341 x7_1) t354 t355 t356 t357 t358 t359 _ A17.out).mono ?_); rintro e w34 ⟨rfl, hb⟩; refine ⟨_, rfl, ?_⟩; have n0_ := ba_.mk (Kd.ne_ (by (with_reducible repeat (first | apply Kd.eb_ | apply Kd.fb_ | apply Kd.rb_)); exact (Kd.rd_ (Kd.jf_ (p := ⟨gb352, 3, none⟩) (Kd.jf_ (p := ⟨gb352, 2, none⟩) (Kd.jf_ (p := ⟨gb352, 1, none⟩) (Kd.jf_ (p := ⟨gb352, 0, none⟩) (Kd.th_ HO_6.out BK352.out Qh) (fun _ hk => hk.2) (.int .i64 t346)) (fun _ hk => hk.2) (.int .i64 t347)) (fun _ hk => hk.2) (.int .i64 t348)) (fun _ hk => hk.2) (.int .i64 t349)) (fun _ h_ => h_.1))) hb); have n1_ := ba_.mk (ed_ (g := gb352) (o := .cells #[.int .i64 t346, .int .i64 t347, .int .i64 t348, .int .i64 t349] 38 (0, 0)) (by (with_reducible repeat (first | refine db_ ?_ _ | refine pb_ ?_ | refine cb_ ?_ _)); refine od_ (cs := #[.int .i64 t346, .int .i64 t347, .int .i64 t348, .int .i64 0]) ?_ 3 _ rfl; (with_reducible repeat (first | refine db_ ?_ _ | refine pb_ ?_ | refine cb_ ?_ _)); refine od_ (cs := #[.int .i64 t346, .int .i64 t347, .int .i64 0, .int .i64 0]) ?_ 2 _ rfl; (with_reducible repeat (first | refine db_ ?_ _ | refine pb_ ?_ | refine cb_ ?_ _)); refine od_ (cs := #[.int .i64 t346, .int .i64 0, .int .i64 0, .int .i64 0]) ?_ 1 _ rfl; (with_reducible repeat (first | refine db_ ?_ _ | refine pb_ ?_ | refine cb_ ?_ _)); refine od_ (cs := #[.int .i64 0, .int .i64 0, .int .i64 0, .int .i64 0]) ?_ 0 _ rfl; (with_reducible repeat (first | refine db_ ?_ _ | refine pb_ ?_ | refine cb_ ?_ _)); exact BK352.out) hb); have n2_ := ba_.mk (wa_ Yp hb); clear HO_6; clear BK352; clear HB; have HO_6 := n0_; have BK352 := n1_; have HB := n2_; clear n0_ n1_ n2_; (try clear hb); (try clear hb2); (try clear hk); (try clear hi)) | ((with_reducible refine md_ (N := 11) rfl ?_); refine fe_ ?hg (N := 11) ?hd (cs := #[.int .i64 0, .int .i64 0, .int .i64 0, .int .i64 0]) (t := 38) ?hr ?_; (case hd => rfl); (case hg => rfl); (case hr => exact Qt); intro gb360 hg w35 hbox hb; have n0_ := ba_.mk (Kd.ne_ (Ql HO_6.out) hb); have n1_ := ba_.mk (ed_ (g := gb352) (o := .cells #[.int .i64 t346, .int .i64 t347, .int .i64 t348, .int .i64 t349] 38 (0, 0)) (Qr BK352.out) hb); have n2_ := ba_.mk (wa_ Yp hb); have n3_ := ba_.mk (hbox); have n4_ := ba_.mk ((by rw [hg]; exact (za_ Yp) : w.heap.size ≤ gb360)); have n5_ := ba_.mk ((by rw [hg]; exact (za_ Yp) : w.heap.size ≤ gb360)); have n6_ := ba_.mk ((by rw [hg]; exact Nat.ne_of_lt (fj_ (g := gb352) (o := .cells #[.int .i64 t346, .int .i64 t347, .int .i64 t348, .int .i64 t349] 38 (0, 0)) (Qr BK352.out)) : gb352 ≠ gb360)); have n7_ := ba_.mk ((by rw [hg]; exact Nat.ne_of_gt (fj_ (g := gb352) (o := .cells #[.int .i64 t346, .int .i64 t347, .int .i64 t348, .int .i64 t349] 38 (0, 0)) (Qr BK352.out)) : gb360 ≠ gb352)); clear HO_6; clear BK352; clear HB; have HO_6 := n0_; have BK352 := n1_; have HB := n2_; have BK360 := n3_; have GW360 := n4_; have GE360 := n5_; have NB352_360 := n6_; have NB360_352 := n7_; clear n0_ n1_ n2_ n3_ n4_ n5_ n6_ n7_; clear hb hbox hg; have hnb36 := NB360_352.out; have hnc36 := NB352_360.out; have hcz37_0 : w35.cell? ⟨gb360, 0, none⟩ = some (.int .i64 0) := (mb_ BK360.out 0).trans rfl; have hcz37_1 : w35.cell? ⟨gb360, 1, none⟩ = some (.int .i64 0) := (mb_ BK360.out 1).trans rfl; have hcz37_2 : w35.cell? ⟨gb360, 2, none⟩ = some (.int .i64 0) := (mb_ BK360.out 2).trans rfl; have hcz37_3 : w35.cell? ⟨gb360, 3, none⟩ = some (.int .i64 0) := (mb_ BK360.out 3).trans rfl; have hfz37_0 := qa_ BK360.out 0; have hfz37_1 := qa_ BK360.out 1; have hfz37_2 := qa_ BK360.out 2; have hfz37_3 := qa_ BK360.out 3; have hcz38_0 : w35.cell? ⟨gb352, 0, none⟩ = some (.int .i64 t346) := (mb_ BK352.out 0).trans rfl; have hcz38_1 : w35.cell? ⟨gb352, 1, none⟩ = some (.int .i64 t347) := (mb_ BK352.out 1).trans rfl; have hcz38_2 : w35.cell? ⟨gb352, 2, none⟩ = some (.int .i64 t348) := (mb_ BK352.out 2).trans rfl; have hcz38_3 : w35.cell? ⟨gb352, 3, none⟩ = some (.int .i64 t349) := (mb_ BK352.out 3).trans rfl; have hfz38_0 := qa_ BK352.out 0; have hfz38_1 := qa_ BK352.out 1; have hfz38_2 := qa_ BK352.out 2; have hfz38_3 := qa_ BK352.out 3))
   go_roundg k1
   case measure => have := HK1.out; omega
   case rel => exact ⟨(wrap64 (x7_1 + 1)), Qi, H', ⟨Qw⟩, ⟨by (with_reducible repeat (first | apply Kd.eb_ | apply Kd.fb_ | apply Kd.rb_)); exact Kd.rd_ (Kd.jf_ (p := ⟨gb360, 3, none⟩) (Kd.jf_ (p := ⟨gb360, 2, none⟩) (Kd.jf_ (p := ⟨gb360, 1, none⟩) (Kd.jf_ (p := ⟨gb360, 0, none⟩) (Kd.th_ HO_6.out BK360.out Qh) (fun _ hk => hk.2) (.int .i64 t354)) (fun _ hk => hk.2) (.int .i64 t355)) (fun _ hk => hk.2) (.int .i64 t356)) (fun _ hk => hk.2) (.int .i64 t357)) (fun _ hk => trivial)⟩, ⟨by repeat (first | (with_reducible first | exact HB.out | apply da_ | apply aa_ | apply ca_ | refine sa_ ?_ GE352.out | refine sa_ ?_ GE360.out) | exact HB.out)⟩⟩
def ab_.Pure : Prop := ∀ (l0 : List Int) (a1 : ByteArray), l0.length ≤ maxLen → l0.length * 8 ≤ 140737488351232 → (∀ x ∈ l0, (Lit.int .i64 x).wf = true) → a1.size ≤ 140737488351232 → ∃ k, ab_.f k l0 a1 = some true
theorem ab_.walk (P : ab_.Pure) (a0 : Option Addr) (len0 cap0 : Nat) (z0 : List Int) (a1 : ByteArray) (w : World) (w0 : (a0 = none ∧ len0 = 0 ∧ cap0 = 0 ∧ z0 = []) ∨ ∃ x, a0 = some x ∧ len0 ≤ cap0 ∧ cap0 ≤ maxLen ∧ z0.length = cap0 ∧ (∀ i, i < z0.length → w.cell? (x.add i) = some (.int .i64 (z0.getD i 0))) ∧ ∀ n ∈ z0, (Lit.int .i64 n).wf = true) (y0 : len0 * 8 ≤ 140737488351232) (w1 : a1.size ≤ 140737488351232) :
  Calls Tryz.prog 7 #[.slice a0 len0 cap0, .string a1] w fun e w' => e = .returned (.bool true) ∧ Below w.heap.size w w' := by
 obtain ⟨l0, rfl, hr0, hm0, hw0, hc0⟩ := me_.ofRowC w0
 obtain ⟨k, h⟩ := P l0 a1 hm0 y0 hw0 w1
 refine (ab_.calls k _ _ l0 a1 true w (Kd.wq_ (d := (0 : Int)) (h1 := fun _ => rfl) hr0) hc0 h rfl).mono ?_
 rintro e w' ⟨rfl, hd⟩
 exact ⟨rfl, hd⟩
end Go.Proofs.YtpkhgapifnjbeaaGreatDoor.T
end
section
namespace Go.Proofs.YtpkhgapifnjbeaaGreatDoor.Pure
open RowKit T Zw.PrintWords Zw.PrintLast Zw.PrintMore G Rs
theorem cf1_ (a b : Int) (h1 : 1 ≤ b) : (if Int.tmod a b < 0 then Int.tmod a b + b else Int.tmod a b) = a % b ∧ -b < Int.tmod a b := by
 have h := Int.emod_nonneg a (b := b) Qa
 have h' := Int.emod_lt_of_pos a (show 0 < b by omega)
 have e := @Int.tmod_eq_emod a b
 by_cases c : 0 ≤ a ∨ b ∣ a
 ·rw [if_pos c] at e
  rw [if_neg Qa]; omega
 rw [if_neg c] at e
 have : a % b ≠ 0 := fun q => c (.inr (Int.dvd_of_emod_eq_zero q))
 rw [if_pos Qa]; omega
theorem cut_f (a b : Int) (h1 : 1 ≤ b) (h2 : b ≤ 1000000) : le_.f a b = some (a % b) := by
 obtain ⟨e, h⟩ := cf1_ a b h1
 unfold le_.f
 rw [if_neg Qa, if_neg Qa]
 by_cases c : Int.tmod a b < 0
 ·rw [if_pos c] at e
  rw [if_pos c, show wrap64 (Int.tmod a b + b) = Int.tmod a b + b from by unfold wrap64; omega, e]
 rw [if_neg c] at e
 rw [if_neg c, e]
def TA (p : Int) : Prop := 0 ≤ p ∧ p ≤ 600
theorem new_f (l : List Int) : ∃ L, se_.f l = some (L, 0) ∧ L.length ≤ 600 ∧ TA 0 := by
 unfold se_.f
 by_cases h : (l.length : Int) > 600
 ·rw [if_pos h, if_pos Qa]
  exact ⟨_, rfl, by rw [List.length_take]; omega, by unfold TA; omega⟩
 rw [if_neg h]
 exact ⟨l, rfl, Qa, by unfold TA; omega⟩
theorem raw_f {L : List Int} (hL : L.length ≤ 600) {p : Int} (hp : TA p) : ∃ v q, de_.f L p = some (v, q) ∧ TA q := by
 unfold TA at hp
 unfold de_.f
 by_cases h : p ≥ (L.length : Int)
 ·rw [if_pos h]; exact ⟨_, _, rfl, hp⟩
 have e1 : wrap64 (p + 1) = p + 1 := by unfold wrap64; omega
 have e2 : wrap64 (p + 1 - 1) = p := by unfold wrap64; omega
 rw [if_neg h, e1, e2, if_pos Qa, if_pos Qa]
 exact ⟨_, _, rfl, by unfold TA; omega⟩
theorem hm_ {L : List Int} (hL : L.length ≤ 600) {p : Int} (hp : TA p) (n : Int) (h1 : 1 ≤ n) (h2 : n ≤ 1000000) : ∃ v q, kb_.f L p n = some (v, q) ∧ 0 ≤ v ∧ v < n ∧ TA q := by
 obtain ⟨v, q, e, hq⟩ := raw_f hL hp
 unfold kb_.f
 rw [e]
 simp only [Option.bind_some]
 rw [cut_f v n h1 h2]
 exact ⟨_, _, rfl, Int.emod_nonneg _ Qa, Int.emod_lt_of_pos _ Qa, hq⟩
theorem us_ {L : List Int} (hL : L.length ≤ 600) {p : Int} (hp : TA p) (a b : Int) (h0 : -1000 ≤ a) (h1 : a ≤ b) (h2 : b ≤ 100000) : ∃ v q, wb_.f L p a b = some (v, q) ∧ a ≤ v ∧ v ≤ b ∧ TA q := by
 have e1 : wrap64 (wrap64 (b - a) + 1) = b - a + 1 := by unfold wrap64; omega
 obtain ⟨v, q, e, v0, v1, hq⟩ := hm_ hL hp (b - a + 1) Qa Qa
 unfold wb_.f
 rw [e1, e]
 simp only [Option.bind_some]
 have e2 : wrap64 (a + v) = a + v := by unfold wrap64; omega
 rw [e2]
 exact ⟨_, _, rfl, Qa, Qa, hq⟩
theorem one_f {L : List Int} (hL : L.length ≤ 600) {p : Int} (hp : TA p) (n : Int) (h1 : 1 ≤ n) (h2 : n ≤ 1000000) : ∃ v q, nd_.f L p n = some (v, q) ∧ TA q := by
 obtain ⟨v, q, e, _, _, hq⟩ := hm_ hL hp n h1 h2
 unfold nd_.f
 rw [e]
 exact ⟨_, _, rfl, hq⟩
theorem sf1_ {L : List Int} (hL : L.length ≤ 600) {p : Int} (hp : TA p) (l : List Int) (h1 : 1 ≤ l.length) (h2 : l.length ≤ 1000) : ∃ v q, zc_.f L p l = some (v, q) ∧ v ∈ l ∧ TA q := by
 obtain ⟨v, q, e, v0, v1, hq⟩ := hm_ hL hp (l.length : Int) Qa Qa
 unfold zc_.f
 rw [e]
 simp only [Option.bind_some]
 rw [if_pos v0, if_pos v1]
 refine ⟨_, _, rfl, ?_, hq⟩
 rw [tf1_ v0]
 exact zf_ Qa
theorem wild_f {L : List Int} (hL : L.length ≤ 600) {p : Int} (hp : TA p) : ∃ v q, ud_.f L p = some (v, q) ∧ TA q := by
 obtain ⟨v, q, e, _, hq⟩ := sf1_ hL hp ([(-1), 0, 1, 2, 31, 32, 99, 100, 200, 201, 9999, 10000, 1000000, 1000001, 1152921504606846976, 1152921504606846977, (-1152921504606846976), 9223372036854775807, (-9223372036854775808)] : List Int) Qh Qh
 unfold ud_.f
 rw [e]
 exact ⟨_, _, rfl, hq⟩
theorem xs_ {L : List Int} (hL : L.length ≤ 600) {p : Int} (hp : TA p) (a m : Int) (hm : m ≤ 1000) : ∃ v q, lb_.f L p a m = some (v, q) ∧ TA q ∧ (m = 0 → v = a) := by
 unfold lb_.f
 by_cases h : m > 0
 rotate_left
 ·rw [if_neg h]
  exact ⟨_, _, rfl, hp, fun _ => rfl⟩
 rw [if_pos h]
 obtain ⟨b, q, e, hq⟩ := one_f hL hp m Qa Qa
 rw [e]
 simp only [Option.bind_some]
 cases b with
 | true =>
  rw [if_pos rfl]
  obtain ⟨v, r, e2, hr⟩ := wild_f hL hq
  rw [e2]
  exact ⟨_, _, rfl, hr, fun q => by omega⟩
 | false =>
  rw [if_neg Qh]
  exact ⟨_, _, rfl, hq, fun q => by omega⟩
def okL (a b c d : Int) : Prop := (0 ≤ a ∧ a ≤ 31) ∧ (0 ≤ b ∧ b ≤ 9999) ∧ (0 ≤ c ∧ c ≤ 31) ∧ (0 ≤ d ∧ d ≤ 31)
theorem hh1_ {L : List Int} (hL : L.length ≤ 600) {p : Int} (hp : TA p) (m : Int) (hm : m ≤ 1000) : ∃ a b c d q, ce_.f L p m = some (a, b, c, d, q) ∧ TA q ∧ (m = 0 → okL a b c d) := by
 unfold ce_.f
 obtain ⟨v1, q1, e1, l1, u1, h1⟩ := us_ hL hp 0 31 Qa Qa Qa
 rw [e1]; simp only [Option.bind_some]
 obtain ⟨a, q2, e2, h2, i2⟩ := xs_ hL h1 v1 m hm
 rw [e2]; simp only [Option.bind_some]
 obtain ⟨v3, q3, e3, m3, h3⟩ := sf1_ hL h2 ([0, 1, 31, 32, 1023, 1024, 5000, 9998, 9999] : List Int) Qh Qh
 rw [e3]; simp only [Option.bind_some]
 obtain ⟨b, q4, e4, h4, i4⟩ := xs_ hL h3 v3 m hm
 rw [e4]; simp only [Option.bind_some]
 obtain ⟨v5, q5, e5, l5, u5, h5⟩ := us_ hL h4 0 31 Qa Qa Qa
 rw [e5]; simp only [Option.bind_some]
 obtain ⟨c, q6, e6, h6, i6⟩ := xs_ hL h5 v5 m hm
 rw [e6]; simp only [Option.bind_some]
 obtain ⟨v7, q7, e7, l7, u7, h7⟩ := us_ hL h6 0 31 Qa Qa Qa
 rw [e7]; simp only [Option.bind_some]
 obtain ⟨d, q8, e8, h8, i8⟩ := xs_ hL h7 v7 m hm
 rw [e8]; simp only [Option.bind_some]
 refine ⟨a, b, c, d, q8, rfl, h8, fun h => ?_⟩
 have k3 : 0 ≤ v3 ∧ v3 ≤ 9999 := by
  simp only [List.mem_cons, List.not_mem_nil, or_false] at m3
  omega
 rw [i2 h, i4 h, i6 h, i8 h]
 exact ⟨⟨l1, u1⟩, k3, ⟨l5, u5⟩, ⟨l7, u7⟩⟩
def chB (b : UInt8) : Bool := b == 48 || b == 49 || b == 63
def pf_ (s : ByteArray) : Bool := decide (s.size = 74) && s.data.toList.all chB
theorem re_ (s : ByteArray) : s.data.toList.length = s.size := rfl
theorem mv_ (s : ByteArray) (i : Nat) (h : i < s.data.toList.length) : Go.Proofs.Zw.PrintWords.bt s (i : Int) = ((s.data.toList[i]).toNat : Int) := by
 have h' : i < s.size := h
 have := Go.Proofs.Zw.PrintWords.ik_ s (i : Int) h'
 rw [← this]
 rfl
theorem cx_ (s : ByteArray) (i : Nat) (h : i < s.data.toList.length) (c : UInt8) : (Go.Proofs.Zw.PrintWords.bt s (i : Int) = (c.toNat : Int)) ↔ (s.data.toList[i] = c) := by
 rw [mv_ s i h]
 exact ⟨fun q => UInt8.toNat_inj.1 Qa, fun q => by rw [q]⟩
theorem xe1_ (s : ByteArray) (hs : s.size ≤ 100000) : ∀ (d i k : Nat), i + d = s.data.toList.length → d < k → gb_.l0 k s (i : Int) = some ((s.data.toList.drop i).all chB) := by
 intro d
 induction d with
 | zero =>
  intro i k hi hk
  obtain ⟨k, rfl⟩ : ∃ m, k = m + 1 := ⟨k - 1, Qa⟩
  have hi' : i = s.data.toList.length := by omega
  simp only [gb_.l0]
  rw [if_neg (by rw [hi', re_]; omega), hi', List.drop_length]; rfl
 | succ d ih =>
  intro i k hi hk
  obtain ⟨k, rfl⟩ : ∃ m, k = m + 1 := ⟨k - 1, Qa⟩
  have hl := re_ s
  have hlt : i < s.data.toList.length := by omega
  have e := ih (i + 1) k Qa Qa
  have b48 : (Go.Proofs.Zw.PrintWords.bt s (i : Int) = 48) ↔ _ := cx_ s i hlt 48
  have b49 : (Go.Proofs.Zw.PrintWords.bt s (i : Int) = 49) ↔ _ := cx_ s i hlt 49
  have b63 : (Go.Proofs.Zw.PrintWords.bt s (i : Int) = 63) ↔ _ := cx_ s i hlt 63
  simp only [gb_.l0]
  rw [if_pos Qa, if_pos Qa, show wrap64 ((i : Int) + 1) = ((i + 1 : Nat) : Int) from by unfold wrap64; omega, e, List.drop_eq_getElem_cons hlt, List.all_cons]
  unfold chB
  by_cases c1 : s.data.toList[i] = 48
  ·rw [if_pos (b48.2 c1), c1]; rfl
  rw [if_neg (fun q => c1 (b48.1 q))]
  by_cases c2 : s.data.toList[i] = 49
  ·rw [if_pos (b49.2 c2), c2]; rfl
  rw [if_neg (fun q => c2 (b49.1 q))]
  by_cases c3 : s.data.toList[i] = 63
  ·rw [if_pos (b63.2 c3), c3]; rfl
  ·rw [if_neg (fun q => c3 (b63.1 q)), beq_false_of_ne c1, beq_false_of_ne c2, beq_false_of_ne c3]; rfl
theorem nu_ (s : ByteArray) (k : Nat) (hk : 100 ≤ k) : gb_.f k s = some (pf_ s) := by
 unfold gb_.f pf_
 by_cases h : s.size = 74
 rotate_left
 ·rw [if_neg Qa, decide_eq_false h, Bool.false_and]
 have hl := re_ s
 have e := xe1_ s Qa 74 0 k Qa Qa
 rw [List.drop_zero] at e
 rw [if_pos Qa, show (0 : Int) = ((0 : Nat) : Int) from rfl, e, decide_eq_true h, Bool.true_and]
theorem bp_ {p : UInt8 → Bool} : ∀ l : List UInt8, (l.dropWhile p = []) ↔ l.all p = true
 | [] => by simp
 | a :: l => by
  rw [List.dropWhile_cons, List.all_cons]
  by_cases h : p a = true
  ·rw [if_pos h, h, Bool.true_and]; exact bp_ l
  ·rw [if_neg h, Bool.eq_false_iff.2 h, Bool.false_and]; simp
theorem mt_ {p : UInt8 → Bool} : ∀ l : List UInt8, (l.dropWhile p).all p = true → l.all p = true
 | [] => by simp
 | a :: l => by
  rw [List.dropWhile_cons, List.all_cons]
  by_cases h : p a = true
  ·rw [if_pos h, h, Bool.true_and]; exact mt_ l
  ·rw [if_neg h, List.all_cons]; exact id
theorem ff1_ (l cs : List UInt8) : (Lib.trimS l cs = []) ↔ l.all (cs.contains ·) = true := by
 unfold Lib.trimS Lib.trimLeftS Lib.trimRightS
 rw [bp_, List.all_reverse]
 constructor
 ·intro h
  have := mt_ _ h
  rwa [List.all_reverse] at this
 intro h
 have : l.reverse.dropWhile (cs.contains ·) = [] := (bp_ _).2 (by rw [List.all_reverse]; exact h)
 rw [this]; rfl
theorem nv_ (b : UInt8) : ([48, 49, 63] : List UInt8).contains b = chB b := by
 unfold chB
 rw [List.contains_cons, List.contains_cons, List.contains_cons, List.contains_nil, Bool.or_false, Bool.or_assoc]
theorem xu_ (s : ByteArray) : mj_.f s = some (pf_ s) := by
 unfold mj_.f TA.ff_.f pf_
 by_cases h : s.size = 74
 rotate_left
 ·rw [if_neg Qa, decide_eq_false h, Bool.false_and]
 rw [if_pos Qa, decide_eq_true h, Bool.true_and]
 unfold mp_.f
 rw [if_pos ⟨Qa, rfl⟩]
 simp only [Option.bind_some]
 rw [ByteArray.toList_mk]
 congr 1
 rw [Bool.eq_iff_iff, beq_iff_eq, ff1_]
 rw [show (fun x => (⟨#[48, 49, 63]⟩ : ByteArray).data.toList.contains x) = chB from funext nv_]
theorem mo_ {s : ByteArray} (h : pf_ s = true) : s.size = 74 ∧ s.data.toList.all chB = true := by
 unfold pf_ at h
 rw [Bool.and_eq_true] at h
 exact ⟨of_decide_eq_true h.1, h.2⟩
theorem nd1_ (s : ByteArray) (c : UInt8) (hs : s.size ≤ 100000) : ∀ (d i k acc : Nat), i + d = s.data.toList.length → d < k → acc + d ≤ 100000 → la_.l0 k s (c.toNat : Int) (acc : Int) (i : Int) = some ((acc + (s.data.toList.drop i).count c : Nat) : Int) := by
 intro d
 induction d with
 | zero =>
  intro i k acc hi hk ha
  obtain ⟨k, rfl⟩ : ∃ m, k = m + 1 := ⟨k - 1, Qa⟩
  have hi' : i = s.data.toList.length := by omega
  simp only [la_.l0]
  rw [if_neg (by rw [hi', re_]; omega), hi', List.drop_length]; rfl
 | succ d ih =>
  intro i k acc hi hk ha
  obtain ⟨k, rfl⟩ : ∃ m, k = m + 1 := ⟨k - 1, Qa⟩
  have hl := re_ s
  have hlt : i < s.data.toList.length := by omega
  have bc := cx_ s i hlt c
  simp only [la_.l0]
  rw [if_pos Qa, if_pos Qa, show wrap64 ((i : Int) + 1) = ((i + 1 : Nat) : Int) from by unfold wrap64; omega, show wrap64 ((acc : Int) + 1) = ((acc + 1 : Nat) : Int) from by unfold wrap64; omega, List.drop_eq_getElem_cons hlt, List.count_cons]
  by_cases c1 : s.data.toList[i] = c
  ·rw [if_pos (bc.2 c1), ih (i + 1) k (acc + 1) Qa Qa Qa, if_pos (by rw [c1]; exact beq_self_eq_true c)]
   congr 1; omega
  rw [if_neg (fun q => c1 (bc.1 q)), ih (i + 1) k acc Qa Qa Qa, if_neg (by simpa using c1)]
  rfl
theorem uk_ (s : ByteArray) (c : UInt8) (hs : s.size ≤ 80) (k : Nat) (hk : 100 ≤ k) : la_.f k s (c.toNat : Int) = some ((s.data.toList.count c : Nat) : Int) := by
 unfold la_.f
 have hl := re_ s
 have e := nd1_ s c Qa s.data.toList.length 0 k 0 Qa Qa Qa
 rw [List.drop_zero, Nat.zero_add] at e
 exact e
theorem zt_ (s : ByteArray) (c : UInt8) : l_Count.f s ⟨#[c]⟩ = some ((s.data.toList.count c : Nat) : Int) := rfl
theorem yb1_ (l : List UInt8) : strOfNums (l.map fun b => (b.toNat : Int)) = ⟨l.toArray⟩ := by
 unfold strOfNums
 congr 2
 rw [List.map_map]
 conv => rhs; rw [← List.map_id l]
 apply List.map_congr_left
 intro b _
 show UInt8.ofNat ((b.toNat : Int)).toNat = b
 rw [Int.toNat_natCast]; exact UInt8.ofNat_toNat
theorem ch1_ (s : ByteArray) (hs : s.size ≤ 100000) : ∀ (n k : Nat) (xs : List UInt8), n ≤ s.data.toList.length → n < k → xs.length + n ≤ 100000 → jb_.l0 k s (xs.map fun b => (b.toNat : Int)) ((n : Int) - 1) = some ⟨(xs ++ (s.data.toList.take n).reverse).toArray⟩ := by
 intro n
 induction n with
 | zero =>
  intro k xs hn hk hx
  obtain ⟨k, rfl⟩ : ∃ m, k = m + 1 := ⟨k - 1, Qa⟩
  simp only [jb_.l0]
  rw [if_neg Qa, yb1_, List.take_zero, List.reverse_nil, List.append_nil]
 | succ n ih =>
  intro k xs hn hk hx
  obtain ⟨k, rfl⟩ : ∃ m, k = m + 1 := ⟨k - 1, Qa⟩
  have hl := re_ s
  have hlt : n < s.data.toList.length := by omega
  have e1 : ((n + 1 : Nat) : Int) - 1 = (n : Int) := by omega
  simp only [jb_.l0]
  rw [e1, if_pos Qa, if_pos Qa, if_pos Qa, if_pos (by rw [List.length_map]; omega), mv_ s n hlt, show wrap64 ((n : Int) - 1) = (n : Int) - 1 from by unfold wrap64; omega]
  have e2 := ih k (xs ++ [s.data.toList[n]]) Qa Qa (by rw [List.length_append, List.length_singleton]; omega)
  rw [List.map_append, List.map_cons, List.map_nil] at e2
  rw [e2, List.take_succ_eq_append_getElem hlt, List.reverse_append, List.reverse_singleton, List.append_assoc]
theorem vx_ (s : ByteArray) (hs : s.size ≤ 1000) (k : Nat) (hk : 1002 ≤ k) : jb_.f k s = some (bj_ s) := by
 unfold jb_.f
 have hl := re_ s
 have e := ch1_ s Qa s.data.toList.length k [] (Nat.le_refl _) Qa (by simp; omega)
 rw [List.take_length, List.nil_append] at e
 rw [show wrap64 ((s.size : Int) - 1) = (s.data.toList.length : Int) - 1 from by rw [hl]; unfold wrap64; omega]
 exact e
theorem ay_ (s : ByteArray) (hs : s.size ≤ 1000) : ni_.f s = some (bj_ s) := by
 unfold ni_.f
 rw [if_pos Qa]
theorem qk_ (s : ByteArray) : (bj_ s).data.toList = s.data.toList.reverse := rfl
theorem gp_ (s : ByteArray) : (bj_ s).size = s.size := by
 rw [← re_, ← re_, qk_, List.length_reverse]
theorem data_inj {s t : ByteArray} (h : s.data.toList = t.data.toList) : s = t := by
 cases s; cases t
 congr 1
 exact Array.ext' h
theorem flip_flip (s : ByteArray) : bj_ (bj_ s) = s := data_inj (by rw [qk_, qk_, List.reverse_reverse])
theorem fr_ (s : ByteArray) : pf_ (bj_ s) = pf_ s := by
 unfold pf_
 rw [gp_, qk_, List.all_reverse]
instance (a b c d : Int) : Decidable (okL a b c d) := by unfold okL; infer_instance
theorem go_ (x m : Int) : sb_.f x m = some (decide (0 ≤ x ∧ x ≤ m)) := by
 unfold sb_.f
 by_cases h : x ≥ 0
 ·rw [if_pos h]
  congr 1
  rw [decide_eq_decide]; omega
 ·rw [if_neg h, decide_eq_false Qa]
theorem ou_ (a b c d : Int) : dd_.f a b c d = some (decide (okL a b c d)) := by
 unfold dd_.f
 rw [go_, go_, go_, go_]
 simp only [Option.bind_some, decide_eq_true_eq]
 by_cases h1 : 0 ≤ a ∧ a ≤ 31
 rotate_left
 ·rw [if_neg h1]
  congr 1
  exact (decide_eq_false (by unfold okL; omega)).symm
 rw [if_pos h1]
 by_cases h2 : 0 ≤ c ∧ c ≤ 31
 rotate_left
 ·rw [if_neg h2]
  congr 1
  exact (decide_eq_false (by unfold okL; omega)).symm
 rw [if_pos h2]
 by_cases h3 : 0 ≤ d ∧ d ≤ 31
 ·rw [if_pos h3]
  congr 1
  rw [decide_eq_decide]; unfold okL; omega
 rw [if_neg h3]
 congr 1
 exact (decide_eq_false (by unfold okL; omega)).symm
theorem ew_ (x : Int) : offB x = true ↔ ¬ (0 ≤ x ∧ x ≤ 31) := by
 unfold offB
 rw [Bool.or_eq_true, decide_eq_true_eq, decide_eq_true_eq]; omega
theorem av_ (a b c d : Int) : TA.tf_.f a b c d = some (decide (okL a b c d)) := by
 unfold TA.tf_.f oq_.f
 rw [if_pos (show ([a, c, d] : List Int).length ≤ 1000 by simp)]
 simp only [Option.bind_some]
 have ha : ([a, c, d] : List Int).any offB = true ↔ ¬ ((0 ≤ a ∧ a ≤ 31) ∧ (0 ≤ c ∧ c ≤ 31) ∧ (0 ≤ d ∧ d ≤ 31)) := by
  rw [List.any_cons, List.any_cons, List.any_cons, List.any_nil, Bool.or_false, Bool.or_eq_true, Bool.or_eq_true, ew_, ew_, ew_]
  omega
 by_cases h : ([a, c, d] : List Int).any offB = true
 ·rw [if_pos h, decide_eq_false (by have := ha.1 h; unfold okL; omega)]
 rw [if_neg h]
 have := Decidable.not_not.1 (fun q => h (ha.2 q))
 by_cases h4 : b ≥ 0
 ·rw [if_pos h4]
  congr 1
  rw [decide_eq_decide]; unfold okL; omega
 ·rw [if_neg h4, decide_eq_false (by unfold okL; omega)]
theorem rr_ (a b c d : Int) : lj_.f a b c d = some (decide (okL a b c d)) := av_ a b c d
def symL (a b c d : Int) : List Int := [a, b / 1024, b / 32 % 32, b % 32, c, d]
def zz_ (a b c d : Int) : List Int × Int := if okL a b c d then (symL a b c d, 0) else ([], 2)
theorem vf1_ {a b c d : Int} (h : okL a b c d) : ([a, wrap64 (Int.tdiv b 1024), Int.tmod (wrap64 (Int.tdiv b 32)) 32, Int.tmod b 32, c, d] : List Int) = symL a b c d := by
 unfold okL at h
 have e1 : Int.tdiv b 1024 = b / 1024 := Int.tdiv_eq_ediv_of_nonneg Qa
 have e2 : Int.tdiv b 32 = b / 32 := Int.tdiv_eq_ediv_of_nonneg Qa
 have e3 : Int.tmod b 32 = b % 32 := Int.tmod_eq_emod_of_nonneg Qa
 have e4 : Int.tmod (b / 32) 32 = b / 32 % 32 := Int.tmod_eq_emod_of_nonneg Qa
 rw [e1, e2, e3, show wrap64 (b / 1024) = b / 1024 from by unfold wrap64; omega, show wrap64 (b / 32) = b / 32 from by unfold wrap64; omega, e4]
 rfl
theorem kw_ (a b c d : Int) : be_.f a b c d = some (zz_ a b c d) := by
 unfold be_.f zz_
 rw [ou_]
 simp only [Option.bind_some]
 by_cases h : okL a b c d
 ·rw [decide_eq_true h, if_pos rfl, if_pos h, vf1_ h]
 ·rw [decide_eq_false h, if_neg Qh, if_neg h]
theorem rw_ (a b c d : Int) : TA.ze_.f a b c d = some (zz_ a b c d) := by
 unfold TA.ze_.f zz_
 rw [av_]
 simp only [Option.bind_some]
 by_cases h : okL a b c d
 ·rw [decide_eq_true h, if_pos rfl, if_pos h, vf1_ h]
 ·rw [decide_eq_false h, if_neg Qh, if_neg h]
theorem qy_ {x : Int} (h : 0 ≤ x ∧ x ≤ 31) : isEl x = true := by
 unfold isEl
 first | (rw [Bool.and_eq_true, decide_eq_true_eq, decide_eq_true_eq]; omega) | (simp; omega)
theorem qm_ {a b c d : Int} (h : okL a b c d) : hi_ (symL a b c d) = true := by
 unfold okL at h
 have h1 : isEl a = true := qy_ h.1
 have h2 : isEl (b / 1024) = true := qy_ Qa
 have h3 : isEl (b / 32 % 32) = true := qy_ Qa
 have h4 : isEl (b % 32) = true := qy_ Qa
 have h5 : isEl c = true := qy_ h.2.2.1
 have h6 : isEl d = true := qy_ h.2.2.2
 unfold hi_ symL
 simp [h1, h2, h3, h4, h5, h6]
theorem em_ (s : ByteArray) (n : Nat) : (s.extract 0 n).data.toList = s.data.toList.take n := by
 rw [ByteArray.data_extract, Array.toList_extract]
 simp [List.extract]
theorem do_ (s : ByteArray) (n : Nat) : (s.extract n s.size).data.toList = s.data.toList.drop n := by
 rw [ByteArray.data_extract, Array.toList_extract]
 have hl := re_ s
 simp only [List.extract]
 rw [List.take_of_length_le (by rw [List.length_drop]; omega)]
def begB (s : ByteArray) : Bool := decide (4 ≤ (s.data.toList.take 7).count 49) && decide (4 ≤ (s.data.toList.drop 67).count 48)
theorem qr_ (s : ByteArray) (h : s.size = 74) : bf_.f s = some (begB s) := by
 unfold bf_.f TA.li_.f begB
 rw [if_pos Qa, if_pos Qa, zt_, em_]
 simp only [Option.bind_some]
 rw [zt_, do_]
 simp only [Option.bind_some]
 by_cases h1 : 4 ≤ (s.data.toList.take 7).count 49
 ·rw [if_pos Qa, if_pos Qa, decide_eq_true h1, Bool.true_and]
  congr 1
  rw [decide_eq_decide]; omega
 ·rw [if_neg Qa, decide_eq_false h1, Bool.false_and]
def upS (s : ByteArray) : ByteArray × Int := if pf_ s = true then (if begB s = true then (s, 0) else if begB (bj_ s) = true then (bj_ s, 0) else (⟨#[]⟩, 26)) else (⟨#[]⟩, 7)
theorem aq_ (s : ByteArray) : cf_.f s = some (upS s) := by
 unfold cf_.f upS
 rw [xu_]
 simp only [Option.bind_some]
 by_cases h : pf_ s = true
 rotate_left
 ·rw [if_neg h, if_neg h]
 obtain ⟨h74, _⟩ := mo_ h
 have h74' : (bj_ s).size = 74 := by rw [gp_, h74]
 rw [if_pos h, if_pos h, ay_ s Qa]
 simp only [Option.bind_some]
 rw [qr_ s h74]
 simp only [Option.bind_some]
 by_cases h1 : begB s = true
 ·rw [if_pos h1, if_pos h1]
 rw [if_neg h1, if_neg h1, qr_ _ h74']
 simp only [Option.bind_some]
 by_cases h2 : begB (bj_ s) = true
 ·rw [if_pos h2, if_pos h2]
 ·rw [if_neg h2, if_neg h2]
theorem zw_ (s : ByteArray) (h : s.size = 74) : begB (bj_ s) = (decide (4 ≤ (s.data.toList.take 7).count 48) && decide (4 ≤ (s.data.toList.drop 67).count 49)) := by
 unfold begB
 have hl := re_ s
 rw [qk_, List.take_reverse, List.drop_reverse, List.count_reverse, List.count_reverse, hl, h, Bool.and_comm]
theorem lw_ (s : ByteArray) (k : Nat) (hk : 1100 ≤ k) : ib_.f k s = some (upS s) := by
 obtain ⟨k', rfl⟩ : ∃ m, k = m + 1 := ⟨k - 1, Qa⟩
 unfold ib_.f upS
 rw [nu_ s _ Qa]
 simp only [Option.bind_some]
 by_cases h : pf_ s = true
 rotate_left
 ·rw [if_neg h, if_neg h]
 obtain ⟨h74, _⟩ := mo_ h
 have z1 : (s.extract 0 7).size ≤ 80 := by rw [← re_, em_, List.length_take]; omega
 have z2 : (s.extract 67 s.size).size ≤ 80 := by rw [← re_, do_, List.length_drop, re_]; omega
 have c1 : ∀ k, 100 ≤ k → la_.f k (s.extract 0 7) 49 = some (((s.data.toList.take 7).count 49 : Nat) : Int) := fun k hk => by have := uk_ _ 49 z1 k hk; rwa [em_] at this
 have c2 : ∀ k, 100 ≤ k → la_.f k (s.extract 67 s.size) 48 = some (((s.data.toList.drop 67).count 48 : Nat) : Int) := fun k hk => by have := uk_ _ 48 z2 k hk; rwa [do_] at this
 have c3 : ∀ k, 100 ≤ k → la_.f k (s.extract 0 7) 48 = some (((s.data.toList.take 7).count 48 : Nat) : Int) := fun k hk => by have := uk_ _ 48 z1 k hk; rwa [em_] at this
 have c4 : ∀ k, 100 ≤ k → la_.f k (s.extract 67 s.size) 49 = some (((s.data.toList.drop 67).count 49 : Nat) : Int) := fun k hk => by have := uk_ _ 49 z2 k hk; rwa [do_] at this
 have j0 : ∀ b, ib_.j0 (k' + 1) s b = some (if b = true then (s, 0) else if begB (bj_ s) = true then (bj_ s, 0) else (⟨#[]⟩, 26)) := by
  intro b
  simp only [ib_.j0]
  by_cases hb : b = true
  ·rw [if_pos hb, if_pos hb]
  rw [if_neg hb, if_neg hb, if_pos Qa, if_pos Qa, c3 _ Qa, zw_ s h74]
  simp only [Option.bind_some]
  by_cases g1 : 4 ≤ (s.data.toList.take 7).count 48
  rotate_left
  ·rw [if_neg Qa, decide_eq_false g1, Bool.false_and, if_neg Qh]
  rw [if_pos Qa, if_pos Qa, c4 _ Qa, decide_eq_true g1, Bool.true_and]
  simp only [Option.bind_some]
  by_cases g2 : 4 ≤ (s.data.toList.drop 67).count 49
  ·rw [if_pos Qa, vx_ s Qa _ Qa, decide_eq_true g2, if_pos rfl]
   rfl
  ·rw [if_neg Qa, decide_eq_false g2, if_neg Qh]
 rw [if_pos h, if_pos h, if_pos Qa, if_pos Qa, c1 _ Qa]
 simp only [Option.bind_some]
 by_cases g1 : 4 ≤ (s.data.toList.take 7).count 49
 rotate_left
 ·rw [if_neg Qa, j0, if_neg Qh, if_neg (show ¬ begB s = true by unfold begB; rw [decide_eq_false g1, Bool.false_and]; decide)]
 rw [if_pos Qa, if_pos Qa, c2 _ Qa]
 simp only [Option.bind_some]
 rw [j0]
 congr 2
 unfold begB
 rw [decide_eq_true g1, Bool.true_and]
 refine propext ?_
 rw [decide_eq_true_eq, decide_eq_true_eq]; omega
theorem li1_ {s u : ByteArray} (h : upS s = (u, 0)) : pf_ u = true := by
 unfold upS at h
 by_cases h1 : pf_ s = true
 rotate_left
 ·rw [if_neg h1] at h
  have := (Prod.mk.inj h).2
  omega
 rw [if_pos h1] at h
 by_cases h2 : begB s = true
 ·rw [if_pos h2] at h
  rw [← (Prod.mk.inj h).1]; exact h1
 rw [if_neg h2] at h
 by_cases h3 : begB (bj_ s) = true
 ·rw [if_pos h3] at h
  rw [← (Prod.mk.inj h).1, fr_]; exact h1
 rw [if_neg h3] at h
 have := (Prod.mk.inj h).2
 omega
end Go.Proofs.YtpkhgapifnjbeaaGreatDoor.Pure
end
section
namespace Go.Proofs.YtpkhgapifnjbeaaGreatDoor.Pure
open RowKit Go.Lib Go.Lib.Hx T Zw.PrintWords Zw.PrintLast Zw.PrintMore G Rs
theorem nj_ (s : ByteArray) (i : Nat) (h : i < s.data.toList.length) : ci_ s i = ((s.data.toList[i]).toNat : Int) := by
 unfold ci_ numsOf
 rw [List.getD_eq_getElem?_getD, List.getElem?_map, List.getElem?_eq_getElem h]
 rfl
theorem ng1_ (s : ByteArray) (i : Nat) (h : i < s.data.toList.length) : Go.Proofs.Zw.PrintWords.bt s (i : Int) = ci_ s i := by rw [mv_ s i h, nj_ s i h]
theorem and_one : ∀ x : Fin 256, Go.bits .and .i64 ((x.1 : Nat) : Int) 1 = ((x.1 % 2 : Nat) : Int) := by decide +kernel
theorem and_1 {x : Int} (h0 : 0 ≤ x) (h1 : x < 256) : Go.bits .and .i64 x 1 = x % 2 := by
 obtain ⟨n, rfl⟩ := Int.eq_ofNat_of_zero_le h0
 have := and_one ⟨n, Qa⟩
 simp only at this
 rw [this]; rfl
def refV (s : ByteArray) (i : Nat) : Nat → Int
 | 0 => 0
 | k + 1 => 2 * refV s i k + (ci_ s (7 + i * 5 + k) - 48) % 256 % 2
theorem gc1_ (s : ByteArray) (i : Nat) : ∀ k, 0 ≤ refV s i k ∧ refV s i k ≤ (2 ^ k - 1 : Nat)
 | 0 => by simp [refV]
 | k + 1 => by
  have := gc1_ s i k
  have h1 := Nat.one_le_two_pow (n := k)
  have h2 : 2 ^ (k + 1) = 2 * 2 ^ k := by rw [Nat.pow_succ]; omega
  simp only [refV]
  omega
theorem ai1_ (s : ByteArray) (i k : Nat) (hk : k ≤ 5) : 0 ≤ refV s i k ∧ refV s i k ≤ 31 := by
 have := gc1_ s i k
 have h2 : 2 ^ k ≤ 2 ^ 5 := Nat.pow_le_pow_right Qa hk
 omega
theorem xg1_ (s : ByteArray) (a b : Nat) : (s.extract a b).data.toList = (s.data.toList.drop a).take (b - a) := by
 rw [ByteArray.data_extract, Array.toList_extract]
theorem px_ (s : ByteArray) (i : Nat) (hs : s.size = 74) (hi : i < 12) : hasQ s i = true ↔ (63 : UInt8) ∈ (s.data.toList.drop (7 + i * 5)).take 5 := by
 have hl := re_ s
 unfold hasQ
 rw [List.any_eq_true, List.mem_iff_getElem]
 constructor
 ·rintro ⟨k, hk, h⟩
  rw [List.mem_range] at hk
  have h := of_decide_eq_true h
  rw [nj_ s _ Qa] at h
  refine ⟨k, by rw [List.length_take, List.length_drop]; omega, ?_⟩
  rw [List.getElem_take, List.getElem_drop]
  exact UInt8.toNat_inj.1 (by have : (63 : UInt8).toNat = 63 := rfl; omega)
 rintro ⟨k, hk, h⟩
 rw [List.length_take, List.length_drop] at hk
 rw [List.getElem_take, List.getElem_drop] at h
 refine ⟨k, List.mem_range.2 Qa, decide_eq_true ?_⟩
 rw [nj_ s _ Qa, h]; rfl
theorem wc1_ (s : ByteArray) (hs : s.size = 74) (i k : Nat) (hi : i < 12) (hk : 100 ≤ k) (ih : xa_.l0 k s ((List.range (i + 1)).map fun j => if hasQ s j = true then -1 else refV s j 5) (((7 + (i + 1) * 5 : Nat)) : Int) = some ((List.range 12).map fun j => if hasQ s j = true then -1 else refV s j 5, 0)) :
  ∀ (d m kk : Nat), m + d = 5 → kk = k + d + 1 → xa_.l1 kk s ((List.range i).map fun j => if hasQ s j = true then -1 else refV s j 5) ((7 + i * 5 : Nat) : Int) (refV s i m) ((7 + i * 5 + m : Nat) : Int) = some ((List.range 12).map fun j => if hasQ s j = true then -1 else refV s j 5, 0) := by
 have hl := re_ s
 have e5 : wrap64 (((7 + i * 5 : Nat) : Int) + 5) = ((7 + (i + 1) * 5 : Nat) : Int) := by unfold wrap64; omega
 intro d
 induction d with
 | zero =>
  intro m kk hm hkk
  obtain rfl : m = 5 := by omega
  subst hkk
  have hz : (s.extract (7 + i * 5) (7 + (i + 1) * 5)).data.toList = (s.data.toList.drop (7 + i * 5)).take 5 := by rw [xg1_]; congr 1; omega
  have hc : ∀ kk, 100 ≤ kk → la_.f kk (s.extract (7 + i * 5) (7 + (i + 1) * 5)) 63 = some ((((s.data.toList.drop (7 + i * 5)).take 5).count 63 : Nat) : Int) := fun kk hk => by
   have := uk_ (s.extract (7 + i * 5) (7 + (i + 1) * 5)) 63 (by rw [← re_, hz, List.length_take]; omega) kk hk
   rwa [hz] at this
  rw [Nat.add_zero]
  simp only [xa_.l1]
  rw [e5, if_neg Qa, if_pos Qa, if_pos Qa, if_pos Qa, Int.toNat_natCast, Int.toNat_natCast, hc _ Qa]
  simp only [Option.bind_some]
  rw [List.range_succ, List.map_append, List.map_cons, List.map_nil] at ih
  by_cases hq : hasQ s i = true
  ·have := List.count_pos_iff.2 ((px_ s i hs hi).1 hq)
   rw [if_pos hq] at ih
   rw [if_pos Qa, if_pos (by rw [List.length_map, List.length_range]; omega)]
   exact ih
  have : ¬ 0 < ((s.data.toList.drop (7 + i * 5)).take 5).count 63 := fun h => hq ((px_ s i hs hi).2 (List.count_pos_iff.1 h))
  rw [if_neg hq] at ih
  rw [if_neg Qa, if_pos (by rw [List.length_map, List.length_range]; omega)]
  exact ih
 | succ d ihd =>
  intro m kk hm hkk
  subst hkk
  have e := ihd (m + 1) (k + d + 1) Qa rfl
  have hb := to_ s (7 + i * 5 + m)
  have hr := ai1_ s i m Qa
  obtain ⟨K, hK⟩ : ∃ K, K = k + d + 1 := ⟨_, rfl⟩
  rw [show k + (d + 1) + 1 = K + 1 from by omega]
  rw [← hK] at e
  simp only [xa_.l1]
  rw [e5, if_pos Qa, if_pos Qa, if_pos Qa, ng1_ s _ Qa, and_1 Qa Qa]
  rw [show wrap64 (((7 + i * 5 + m : Nat) : Int) + 1) = ((7 + i * 5 + (m + 1) : Nat) : Int) from by unfold wrap64; omega]
  rw [show wrap64 (wrap64 (2 * refV s i m) + (ci_ s (7 + i * 5 + m) - 48) % 256 % 2) = refV s i (m + 1) from by simp only [refV]; unfold wrap64; omega]
  exact e
theorem ni1_ (s : ByteArray) (hs : s.size = 74) : ∀ (d i k : Nat), i + d = 12 → 110 + d * 7 ≤ k → xa_.l0 k s ((List.range i).map fun j => if hasQ s j = true then -1 else refV s j 5) ((7 + i * 5 : Nat) : Int) = some ((List.range 12).map fun j => if hasQ s j = true then -1 else refV s j 5, 0) := by
 intro d
 induction d with
 | zero =>
  intro i k hi hk
  obtain ⟨k, rfl⟩ : ∃ m, k = m + 1 := ⟨k - 1, Qa⟩
  obtain rfl : i = 12 := by omega
  simp only [xa_.l0]
  rw [if_neg Qa]
 | succ d ih =>
  intro i k hi hk
  obtain ⟨k, rfl⟩ : ∃ m, k = m + 7 := ⟨k - 7, Qa⟩
  have e := ih (i + 1) k Qa Qa
  have t := wc1_ s hs i k Qa Qa e 5 0 (k + 6) Qa Qa
  rw [show k + 7 = (k + 6) + 1 from rfl]
  simp only [xa_.l0]
  rw [if_pos Qa]
  exact t
theorem jd1_ {s : ByteArray} (h : pf_ s = true) (j : Nat) (hj : j < 74) : ci_ s j = 48 ∨ ci_ s j = 49 ∨ ci_ s j = 63 := by
 obtain ⟨h74, ha⟩ := mo_ h
 have hl := re_ s
 have hlt : j < s.data.toList.length := by omega
 have := List.all_eq_true.1 ha _ (List.getElem_mem hlt)
 unfold chB at this
 rw [Bool.or_eq_true, Bool.or_eq_true, beq_iff_eq, beq_iff_eq, beq_iff_eq] at this
 rw [nj_ s j hlt]
 rcases this with (h | h) | h
 ·rw [h]; exact .inl rfl
 ·rw [h]; exact .inr (.inl rfl)
 ·rw [h]; exact .inr (.inr rfl)
theorem xx_ {s : ByteArray} (h : pf_ s = true) (i : Nat) (hi : i < 12) (hq : ¬ hasQ s i = true) : ∀ k, k ≤ 5 → refV s i k = symTo s i k
 | 0, _ => rfl
 | k + 1, hk => by
  have e := xx_ h i hi hq k Qa
  have hc := jd1_ h (7 + i * 5 + k) Qa
  have hn : ci_ s (7 + i * 5 + k) ≠ 63 := fun q => hq (by
   unfold hasQ
   rw [List.any_eq_true]
   exact ⟨k, List.mem_range.2 Qa, decide_eq_true q⟩)
  simp only [refV, symTo]
  rw [e]
  omega
def tw_ (s : ByteArray) : List Int × Int := if pf_ s = true then (yn_ s, 0) else ([], 7)
theorem qe1_ (s : ByteArray) (k : Nat) (hk : 300 ≤ k) : xa_.f k s = some (tw_ s) := by
 unfold xa_.f tw_
 rw [nu_ s k Qa]
 simp only [Option.bind_some]
 by_cases h : pf_ s = true
 rotate_left
 ·rw [if_neg h, if_neg h]
 rw [if_pos h, if_pos h]
 have e := ni1_ s (mo_ h).1 12 0 k Qa Qa
 rw [List.range_zero, List.map_nil] at e
 rw [show (7 : Int) = ((7 + 0 * 5 : Nat) : Int) from rfl, e]
 congr 2
 unfold yn_
 apply List.map_congr_left
 intro j hj
 unfold symS
 by_cases hq : hasQ s j = true
 ·rw [if_pos hq, if_pos hq]
 ·rw [if_neg hq, if_neg hq, xx_ h j (List.mem_range.1 hj) hq 5 Qa]
theorem by_ (s : ByteArray) : sj_.f s = some (tw_ s) := by
 unfold sj_.f tw_
 rw [show TA.ff_.f s = some (pf_ s) from xu_ s]
 simp only [Option.bind_some]
 by_cases h : pf_ s = true
 ·rw [if_pos h, if_pos h]
 ·rw [if_neg h, if_neg h]
theorem di1_ : ∀ x : Fin 32, ∀ j : Fin 5, Go.bits .and .i64 (shr .i64 (x.1 : Int) (IntKind.u64.wrap (j.1 : Int))) 1 = if (x.1 / 2 ^ j.1) % 2 = 1 then 1 else 0 := by decide +kernel
theorem nh1_ (x : Nat) (hx : x < 32) : ∀ (d j k : Nat), j + d = 5 → d < k → ob_.l0 k (x : Int) ⟨(kf_ (x : Int) j).toArray⟩ ((d : Int) - 1) = some ⟨(kf_ (x : Int) 5).toArray⟩ := by
 intro d
 induction d with
 | zero =>
  intro j k hj hk
  obtain ⟨k, rfl⟩ : ∃ m, k = m + 1 := ⟨k - 1, Qa⟩
  obtain rfl : j = 5 := by omega
  simp only [ob_.l0]
  rw [if_neg Qa]
 | succ d ih =>
  intro j k hj hk
  obtain ⟨k, rfl⟩ : ∃ m, k = m + 1 := ⟨k - 1, Qa⟩
  have e := ih (j + 1) k Qa Qa
  have hb := di1_ ⟨x, hx⟩ ⟨d, Qa⟩
  simp only at hb
  have hw : 0 ≤ IntKind.u64.wrap (d : Int) := by
   have : IntKind.u64.wrap (d : Int) = (d : Int) := by
    have : d < 5 := by omega
    match d, this with
    | 0, _ => rfl
    | 1, _ => rfl
    | 2, _ => rfl
    | 3, _ => rfl
    | 4, _ => rfl
   omega
  have hsz : (⟨(kf_ (x : Int) j).toArray⟩ : ByteArray).size = j := by rw [← re_]; exact yh_ _ _
  have hm := op_ (x : Int) j
  rw [show ((d + 1 : Nat) : Int) - 1 = (d : Int) from by omega]
  simp only [ob_.l0]
  rw [if_pos Qa, if_pos hw, hb, show wrap64 ((d : Int) - 1) = (d : Int) - 1 from by unfold wrap64; omega]
  have ebit : bitB (x : Int) j = if (x / 2 ^ d) % 2 = 1 then 49 else 48 := by
   unfold bitB
   rw [show 4 - j = d from by omega, Int.toNat_natCast]
  by_cases c : (x / 2 ^ d) % 2 = 1
  ·rw [if_pos c] at ebit
   rw [if_pos c, if_pos rfl, if_pos Qa]
   rw [ebit] at hm
   rw [show (⟨(kf_ (x : Int) j).toArray⟩ : ByteArray) ++ (⟨#[49]⟩ : ByteArray) = ⟨(kf_ (x : Int) (j + 1)).toArray⟩ from data_inj (by rw [← hm]; simp)]
   exact e
  rw [if_neg c] at ebit
  rw [if_neg c, if_neg Qh, if_pos Qa]
  rw [ebit] at hm
  rw [show (⟨(kf_ (x : Int) j).toArray⟩ : ByteArray) ++ (⟨#[48]⟩ : ByteArray) = ⟨(kf_ (x : Int) (j + 1)).toArray⟩ from data_inj (by rw [← hm]; simp)]
  exact e
theorem mods_f (x : Int) (hx : 0 ≤ x ∧ x < 32) (k : Nat) (hk : 10 ≤ k) : ob_.f k x = some ⟨(kf_ x 5).toArray⟩ := by
 obtain ⟨n, rfl⟩ := Int.eq_ofNat_of_zero_le hx.1
 unfold ob_.f
 exact nh1_ n Qa 5 0 k Qa Qa
theorem rg1_ (ws : List Int) (hl : ws.length ≤ 100) (he : uj_ ws = true) : ∀ (d i k : Nat), i + d = ws.length → d + 20 < k → tb_.l0 k ws ⟨(xf_ ws i).toArray⟩ (i : Int) = some (vh_ ws, 0) := by
 intro d
 induction d with
 | zero =>
  intro i k hi hk
  obtain ⟨k, rfl⟩ : ∃ m, k = m + 1 := ⟨k - 1, Qa⟩
  obtain rfl : i = ws.length := by omega
  have h6 := cl_ ws ws.length (Nat.le_refl _) hl
  have hsz : (⟨(xf_ ws ws.length).toArray⟩ : ByteArray).size = (xf_ ws ws.length).length := rfl
  simp only [tb_.l0]
  rw [if_neg Qa, if_pos Qa]
  congr 2
 | succ d ih =>
  intro i k hi hk
  obtain ⟨k, rfl⟩ : ∃ m, k = m + 1 := ⟨k - 1, Qa⟩
  have e := ih (i + 1) k Qa Qa
  have h6 := cl_ ws i Qa hl
  have hsz : (⟨(xf_ ws i).toArray⟩ : ByteArray).size = (xf_ ws i).length := rfl
  have hsz2 : (⟨(kf_ (rd ws (i : Int)) 5).toArray⟩ : ByteArray).size = 5 := yh_ _ _
  have hx := bl_ he i Qa
  unfold isEl at hx
  rw [Bool.and_eq_true, decide_eq_true_eq, decide_eq_true_eq] at hx
  have hr : rd ws (i : Int) = ws.getD i 0 := ye_ ws i
  have hm := zo_ ws i Qa
  simp only [tb_.l0]
  rw [if_pos Qa, if_pos Qa, mods_f _ (by rw [hr]; exact hx) k Qa]
  simp only [Option.bind_some]
  rw [if_pos Qa, show wrap64 ((i : Int) + 1) = ((i + 1 : Nat) : Int) from by unfold wrap64; omega]
  rw [show (⟨(xf_ ws i).toArray⟩ : ByteArray) ++ (⟨(kf_ (rd ws (i : Int)) 5).toArray⟩ : ByteArray) = ⟨(xf_ ws (i + 1)).toArray⟩ from data_inj (by rw [← hm]; simp)]
  exact e
def pv_ (a b c d : Int) : ByteArray × Int := if okL a b c d then (vh_ (encC (symL a b c d)), 0) else (⟨#[]⟩, 2)
theorem za1_ {a b c d : Int} (h : okL a b c d) : encS (symL a b c d) = (encC (symL a b c d), 0) := by
 unfold encS
 rw [if_pos (qm_ h)]
theorem dh_ {a b c d : Int} (h : okL a b c d) : (encC (symL a b c d)).length = 12 := by
 rw [xm_ (qm_ h)]; rfl
theorem sv_ {a b c d : Int} (h : okL a b c d) : uj_ (encC (symL a b c d)) = true := (jq_ (lg_ (hs_ (qm_ h))).1).1
theorem ne1_ (a b c d : Int) (k : Nat) (hk : 50 ≤ k) : tb_.f k a b c d = some (pv_ a b c d) := by
 unfold tb_.f pv_
 rw [kw_]
 simp only [Option.bind_some]
 unfold zz_
 by_cases h : okL a b c d
 rotate_left
 ·rw [if_neg h, if_neg h, if_neg Qh]
 rw [if_pos h, if_pos h, if_pos rfl]
 unfold mu_.f
 rw [if_pos (by unfold symL; simp), za1_ h]
 simp only [Option.bind_some]
 have e := rg1_ (encC (symL a b c d)) (by rw [dh_ h]; omega) (sv_ h) 12 0 k (by rw [dh_ h]) Qa
 rw [ap_] at e
 exact e
theorem zx_ (a b c d : Int) : sh_.f a b c d = some (pv_ a b c d) := by
 unfold sh_.f pv_
 rw [rw_]
 simp only [Option.bind_some]
 unfold zz_
 by_cases h : okL a b c d
 rotate_left
 ·rw [if_neg h, if_neg h, if_neg Qh]
 rw [if_pos h, if_pos h, if_pos rfl]
 unfold rt_.f
 rw [if_pos (by unfold symL; simp), za1_ h]
 simp only [Option.bind_some]
 rw [if_pos ⟨trivial, sv_ h, by rw [dh_ h]; omega⟩]
theorem fo_ (l : List Int) : (l.flatMap fun x => kf_ x 5).length = 5 * l.length := by
 induction l with
 | nil => rfl
 | cons a l ih => rw [List.flatMap_cons, List.length_append, ih, yh_, List.length_cons]; omega
theorem vi_ (ws : List Int) (h : ws.length = 12) : (vh_ ws).size = 74 := by
 rw [← re_]
 show (xf_ ws ws.length ++ lq_).length = 74
 unfold xf_
 rw [List.take_length, List.length_append, List.length_append, fo_, h]; rfl
theorem bit_ch (x : Int) (j : Nat) : chB (bitB x j) = true := by
 unfold bitB
 split <;> rfl
theorem yo_ (ws : List Int) (h : ws.length = 12) : pf_ (vh_ ws) = true := by
 unfold pf_
 rw [vi_ ws h, decide_eq_true rfl, Bool.true_and]
 show (xf_ ws ws.length ++ lq_).all chB = true
 unfold xf_
 rw [List.all_append, List.all_append, List.all_flatMap]
 have : (ws.take ws.length).all (fun x => (kf_ x 5).all chB) = true := by
  rw [List.all_eq_true]
  intro x _
  unfold kf_
  rw [List.all_map, List.all_eq_true]
  intro j _
  exact bit_ch x j
 rw [this]; rfl
theorem dv_ (s : ByteArray) : (yn_ s).length = 12 := by unfold yn_; rw [List.length_map, List.length_range]
theorem nx_ : ∀ (l : List Int) (i k : Nat), i < l.length → k < 5 → ∀ h : i * 5 + k < (l.flatMap fun x => kf_ x 5).length, (l.flatMap fun x => kf_ x 5)[i * 5 + k] = bitB (l.getD i 0) k
 | [], i, k, hi, _ => by simp at hi
 | a :: l, 0, k, _, hk => by
  intro h
  simp only [List.flatMap_cons] at h ⊢
  rw [List.getElem_append_left (by rw [yh_]; omega)]
  simp [kf_]
 | a :: l, i + 1, k, hi, hk => by
  intro h
  simp only [List.flatMap_cons] at h ⊢
  rw [List.getElem_append_right (by rw [yh_]; omega)]
  have e : (i + 1) * 5 + k - (kf_ a 5).length = i * 5 + k := by rw [yh_]; omega
  have := nx_ l i k (by simpa using hi) hk (by rw [fo_]; simp at hi; omega)
  simp only [e]
  rw [this]
  simp
theorem ui_ (ws : List Int) : (vh_ ws).data.toList = eu_ ++ ((ws.flatMap fun x => kf_ x 5) ++ lq_) := by
 show xf_ ws ws.length ++ lq_ = _
 unfold xf_
 rw [List.take_length, List.append_assoc]
theorem lt_ (ws : List Int) (hl : ws.length = 12) (i k : Nat) (hi : i < 12) (hk : k < 5) : ci_ (vh_ ws) (7 + i * 5 + k) = ((bitB (ws.getD i 0) k).toNat : Int) := by
 have hs := vi_ ws hl
 have hz := re_ (vh_ ws)
 rw [nj_ _ _ Qa]
 have hf := fo_ ws
 have : (vh_ ws).data.toList[7 + i * 5 + k]'Qa = bitB (ws.getD i 0) k := by
  have h3 : ∀ (L : List UInt8) (e : (vh_ ws).data.toList = L) (h : 7 + i * 5 + k < L.length), (vh_ ws).data.toList[7 + i * 5 + k]'Qa = L[7 + i * 5 + k] := by
   intro L e h; subst e; rfl
  rw [h3 _ (ui_ ws) (by rw [← ui_]; omega)]
  rw [List.getElem_append_right (by show 7 ≤ _; omega)]
  rw [List.getElem_append_left (by rw [hf]; show 7 + i * 5 + k - 7 < _; omega)]
  have := nx_ ws i k Qa hk Qa
  rw [← this]
  congr 1
  show 7 + i * 5 + k - 7 = i * 5 + k
  omega
 rw [this]
theorem ja1_ : ∀ x : Fin 32, (((((0 * 2 + (((bitB (x.1 : Int) 0).toNat : Int) - 48) % 256) * 2 + (((bitB (x.1 : Int) 1).toNat : Int) - 48) % 256) * 2 + (((bitB (x.1 : Int) 2).toNat : Int) - 48) % 256) * 2 + (((bitB (x.1 : Int) 3).toNat : Int) - 48) % 256) * 2 + (((bitB (x.1 : Int) 4).toNat : Int) - 48) % 256) = (x.1 : Int) := by decide +kernel
theorem bit_63 (x : Int) (k : Nat) : ((bitB x k).toNat : Int) ≠ 63 := by
 unfold bitB
 split <;> decide
theorem vc1_ (ws : List Int) (hl : ws.length = 12) (he : uj_ ws = true) : yn_ (vh_ ws) = ws := by
 apply List.ext_getElem (by rw [dv_, hl])
 intro i h1 h2
 have hi : i < 12 := by omega
 simp only [yn_, List.getElem_map, List.getElem_range]
 have hq : ¬ hasQ (vh_ ws) i = true := by
  unfold hasQ
  rw [List.any_eq_true]
  rintro ⟨k, hk, h⟩
  rw [List.mem_range] at hk
  have h := of_decide_eq_true h
  rw [lt_ ws hl i k hi hk] at h
  exact bit_63 _ _ h
 have hx := bl_ he i h2
 unfold isEl at hx
 rw [Bool.and_eq_true, decide_eq_true_eq, decide_eq_true_eq] at hx
 have hg : ws.getD i 0 = ws[i] := by rw [List.getD_eq_getElem?_getD, List.getElem?_eq_getElem h2]; rfl
 unfold symS
 rw [if_neg hq]
 have hb := fun k hk => lt_ ws hl i k hi hk
 rw [hg] at hx hb
 obtain ⟨n, hn⟩ := Int.eq_ofNat_of_zero_le hx.1
 have := ja1_ ⟨n, Qa⟩
 simp only at this
 simp only [symTo]
 rw [hb 0 Qa, hb 1 Qa, hb 2 Qa, hb 3 Qa, hb 4 Qa, hn]
 exact this
theorem fd1_ (ws : List Int) (hl : ws.length = 12) : begB (vh_ ws) = true := by
 unfold begB
 have hf := fo_ ws
 have e1 : (vh_ ws).data.toList.take 7 = eu_ := by
  rw [ui_]; exact List.take_left' rfl
 have e2 : (vh_ ws).data.toList.drop 67 = lq_ := by
  rw [ui_, ← List.append_assoc]
  exact List.drop_left' (by rw [List.length_append, hf, hl]; rfl)
 rw [e1, e2]; decide
theorem gd1_ (ws : List Int) (hl : ws.length = 12) : begB (bj_ (vh_ ws)) = false := by
 rw [zw_ _ (vi_ ws hl)]
 have e1 : (vh_ ws).data.toList.take 7 = eu_ := by
  rw [ui_]; exact List.take_left' rfl
 rw [e1]
 have : decide (4 ≤ eu_.count 48) = false := by decide
 rw [this, Bool.false_and]
theorem mi1_ (ws : List Int) (hl : ws.length = 12) : upS (bj_ (vh_ ws)) = (vh_ ws, 0) := by
 unfold upS
 rw [fr_, if_pos (yo_ ws hl), gd1_ ws hl, if_neg Qh, flip_flip, if_pos (fd1_ ws hl)]
theorem zh1_ {a b c d : Int} (h : okL a b c d) (s : ByteArray) (hu : upS s = (vh_ (encC (symL a b c d)), 0)) : ee_.f s = some (a, b, c, d, 0, 0) := by
 have hl := dh_ h
 unfold ee_.f
 rw [aq_, hu]
 simp only [Option.bind_some]
 rw [if_pos trivial, by_]
 unfold tw_
 rw [if_pos (yo_ _ hl), vc1_ _ hl (sv_ h)]
 simp only [Option.bind_some]
 unfold tn_.f
 rw [pg1_ (qm_ h)]
 simp only [Option.bind_some]
 have h6 : (symL a b c d).length = 6 := rfl
 rw [if_pos trivial]
 iterate 6 rw [if_pos Qa]
 have r0 : rd (symL a b c d) 0 = a := rfl
 have r1 : rd (symL a b c d) 1 = b / 1024 := rfl
 have r2 : rd (symL a b c d) 2 = b / 32 % 32 := rfl
 have r3 : rd (symL a b c d) 3 = b % 32 := rfl
 have r4 : rd (symL a b c d) 4 = c := rfl
 have r5 : rd (symL a b c d) 5 = d := rfl
 have hb : wrap64 (wrap64 (wrap64 (b / 1024 * 1024) + wrap64 (b / 32 % 32 * 32)) + b % 32) = b := by
  have := h
  unfold okL at this
  unfold wrap64; omega
 rw [r0, r1, r2, r3, r4, r5, hb, rr_, decide_eq_true h]
 simp only [Option.bind_some]
 rw [if_pos trivial]
theorem kg1_ : pe_.f = some true := by
 have ok1 : okL 3 9999 2 1 := by decide
 have ok2 : okL 0 0 0 0 := by decide
 have hd1 : sh_.f 3 9999 2 1 = some (vh_ (encC (symL 3 9999 2 1)), 0) := by rw [zx_]; unfold pv_; rw [if_pos ok1]
 have hd2 : sh_.f 0 0 0 0 = some (vh_ (encC (symL 0 0 0 0)), 0) := by rw [zx_]; unfold pv_; rw [if_pos ok2]
 have z1 := vi_ _ (dh_ ok1)
 have z2 := vi_ _ (dh_ ok2)
 have hr := zh1_ ok1 _ (mi1_ _ (dh_ ok1))
 have e8 : ((vh_ (encC (symL 0 0 0 0))).extract 0 8).toList = ([49, 49, 49, 49, 49, 49, 49, 48] : List UInt8) := by
  rw [ByteArray.toList_eq, em_, ui_]
  have hl := dh_ ok2
  have h0 := fx_ (qm_ ok2) 0 Qh
  match hq : encC (symL 0 0 0 0), hl, h0 with
  | x :: l, _, h0 =>
   have : x = 0 := h0
   subst this
   rfl
 unfold pe_.f
 rw [hd1]
 simp only [Option.bind_some]
 rw [ay_ _ Qa]
 simp only [Option.bind_some]
 rw [hr]
 simp only [Option.bind_some]
 rw [hd2]
 simp only [Option.bind_some]
 rw [if_pos trivial, if_pos Qa, if_pos trivial, if_pos trivial, if_pos Qh, if_pos trivial, if_pos Qa, if_pos Qh, if_pos Qa, e8]
 rfl
theorem piece (s : ByteArray) (hs : s.size ≤ 100000) (i : Nat) (hi : i < s.size) (c : UInt8) (p : Option ByteArray → Prop) (h : p (some ((s.extract 0 i ++ ⟨#[c]⟩) ++ s.extract (i + 1) s.size))) :
  p (if (i : Int) ≤ (s.size : Int) then (if (s.extract 0 (i : Int).toNat).size + 1 ≤ 9223372036854775807 then (if 0 ≤ (wrap64 ((i : Int) + 1)) then (if (wrap64 ((i : Int) + 1)) ≤ (s.size : Int) then (if ((s.extract 0 (i : Int).toNat) ++ (⟨#[c]⟩ : ByteArray)).size + (s.extract ((wrap64 ((i : Int) + 1)) : Int).toNat s.size).size ≤ 9223372036854775807 then (some (((s.extract 0 (i : Int).toNat) ++ (⟨#[c]⟩ : ByteArray)) ++ (s.extract ((wrap64 ((i : Int) + 1)) : Int).toNat s.size))) else (none)) else (none)) else (none)) else (none)) else (none)) := by
 have e : wrap64 ((i : Int) + 1) = ((i + 1 : Nat) : Int) := by unfold wrap64; omega
 have h1 : (⟨#[c]⟩ : ByteArray).size = 1 := rfl
 rw [e, Int.toNat_natCast, Int.toNat_natCast, if_pos Qa, if_pos (by rw [ByteArray.size_extract]; omega), if_pos Qa, if_pos Qa, if_pos (by rw [ByteArray.size_append, ByteArray.size_extract, ByteArray.size_extract]; omega)]
 exact h
theorem gz_ (s : ByteArray) (i : Nat) (hi : i < s.size) (c : UInt8) : ((s.extract 0 i ++ ⟨#[c]⟩) ++ s.extract (i + 1) s.size).size = s.size := by
 have h1 : (⟨#[c]⟩ : ByteArray).size = 1 := rfl
 rw [ByteArray.size_append, ByteArray.size_append, ByteArray.size_extract, ByteArray.size_extract]; omega
theorem kd1_ (s : ByteArray) (hs : s.size ≤ 100000) (i : Nat) (hi : i < s.size) (v : Int) (k : Nat) (hk : 1 ≤ k) : ∃ t, zb_.f k s (i : Int) v = some t ∧ t.size = s.size := by
 obtain ⟨k, rfl⟩ : ∃ m, k = m + 1 := ⟨k - 1, Qa⟩
 unfold zb_.f
 rw [if_neg Qa, decide_eq_false Qa]
 simp only [zb_.j0]
 rw [if_neg Qh, if_pos Qa, if_pos Qa]
 have P : ∀ c, ∃ t, some ((s.extract 0 i ++ ⟨#[c]⟩) ++ s.extract (i + 1) s.size) = some t ∧ t.size = s.size := fun c => ⟨_, rfl, gz_ s i hi c⟩
 split
 ·split
  ·exact piece s hs i hi 63 (fun o => ∃ t, o = some t ∧ t.size = s.size) (P 63)
  ·exact piece s hs i hi 49 (fun o => ∃ t, o = some t ∧ t.size = s.size) (P 49)
 split
 ·exact piece s hs i hi 63 (fun o => ∃ t, o = some t ∧ t.size = s.size) (P 63)
 ·exact piece s hs i hi 48 (fun o => ∃ t, o = some t ∧ t.size = s.size) (P 48)
theorem va1_ {L : List Int} (hL : L.length ≤ 600) : ∀ (n k : Nat) (p : Int) (s : ByteArray), n < k → n ≤ 1000 → TA p → s.size = 74 → ∃ t q, bb_.l0 k s (n : Int) L p = some (t, q) ∧ t.size = 74 ∧ TA q := by
 intro n
 induction n with
 | zero =>
  intro k p s hk hn hp hs
  obtain ⟨k, rfl⟩ : ∃ m, k = m + 1 := ⟨k - 1, Qa⟩
  simp only [bb_.l0]
  rw [if_neg Qa]
  exact ⟨_, _, rfl, hs, hp⟩
 | succ n ih =>
  intro k p s hk hn hp hs
  obtain ⟨k, rfl⟩ : ∃ m, k = m + 1 := ⟨k - 1, Qa⟩
  obtain ⟨v, q, e, v0, v1, hq⟩ := hm_ hL hp (s.size : Int) Qa Qa
  obtain ⟨u, q2, e2, _, _, hq2⟩ := hm_ hL hq 2 Qa Qa
  obtain ⟨i, rfl⟩ := Int.eq_ofNat_of_zero_le v0
  obtain ⟨t, e3, h3⟩ := kd1_ s Qa i Qa u k Qa
  obtain ⟨t4, q4, e4, h4, hq4⟩ := ih k q2 t Qa Qa hq2 Qa
  simp only [bb_.l0]
  rw [if_pos Qa, e]
  simp only [Option.bind_some]
  rw [e2]
  simp only [Option.bind_some]
  rw [e3]
  simp only [Option.bind_some]
  rw [show wrap64 (((n + 1 : Nat) : Int) - 1) = (n : Int) from by unfold wrap64; omega, e4]
  exact ⟨_, _, rfl, h4, hq4⟩
theorem od1_ {L : List Int} (hL : L.length ≤ 600) (m : Nat) (hm : m ≤ 1000) (k : Nat) (hk : m < k) {p : Int} (hp : TA p) (s : ByteArray) (hs : s.size = 74) : ∃ t q, bb_.f k L p s (m : Int) = some (t, q) ∧ t.size = 74 ∧ TA q := by
 obtain ⟨v, q, e, v0, v1, hq⟩ := us_ hL hp 0 (m : Int) Qa Qa Qa
 obtain ⟨i, rfl⟩ := Int.eq_ofNat_of_zero_le v0
 unfold bb_.f
 rw [e]
 simp only [Option.bind_some]
 exact va1_ hL i k q s Qa Qa hq hs
theorem qu_ (l : List ByteArray) (i : Int) (h : ∀ x ∈ l, x.size ≤ 1) : (rdOf ByteArray.empty l i).size ≤ 1 := by
 unfold rdOf
 rw [List.getD_eq_getElem?_getD]
 cases h2 : l[i.toNat]? with
 | none => decide
 | some x => exact h x (List.mem_of_getElem? h2)
theorem small3 : ∀ x ∈ ([(⟨#[]⟩ : ByteArray), (⟨#[48]⟩ : ByteArray), (⟨#[50]⟩ : ByteArray)] : List ByteArray), x.size ≤ 1 := by decide
theorem mf1_ {L : List Int} (hL : L.length ≤ 600) (k : Nat) {p : Int} (hp : TA p) (s : ByteArray) (hs : s.size = 74) : ∃ t q, na_.j0 (k + 1) s L p = some (t, q) ∧ t.size ≤ 75 ∧ TA q := by
 obtain ⟨b, q, e, hq⟩ := one_f hL hp 12 Qa Qa
 simp only [na_.j0]
 rw [e]
 simp only [Option.bind_some]
 by_cases hb : b = true
 rotate_left
 ·rw [if_neg hb]
  exact ⟨_, _, rfl, Qa, hq⟩
 obtain ⟨v, q2, e2, v0, v1, hq2⟩ := hm_ hL hq 2 Qa Qa
 obtain ⟨u, q3, e3, u0, u1, hq3⟩ := hm_ hL hq2 3 Qa Qa
 rw [if_pos hb, e2]
 simp only [Option.bind_some]
 rw [if_pos v0, if_pos Qa, e3]
 simp only [Option.bind_some]
 have hz := qu_ _ u small3
 have hx : (s.extract v.toNat s.size).size ≤ 74 := by rw [ByteArray.size_extract]; omega
 rw [if_pos u0, if_pos (by simpa using u1), if_pos Qa]
 exact ⟨_, _, rfl, by rw [ByteArray.size_append]; omega, hq3⟩
theorem kt_ {L : List Int} (hL : L.length ≤ 600) (m : Nat) (hm : m ≤ 1000) (k : Nat) (hk : 1100 ≤ k) {p : Int} (hp : TA p) : ∃ t q, na_.f k L p (m : Int) = some (t, q) ∧ t.size ≤ 75 ∧ TA q := by
 obtain ⟨k', rfl⟩ : ∃ m, k = m + 1 := ⟨k - 1, Qa⟩
 obtain ⟨a, b, c, d, q1, e1, h1, o1⟩ := hh1_ hL hp 0 Qa
 have ok := o1 rfl
 have hd : (vh_ (encC (symL a b c d))).size = 74 := vi_ _ (dh_ ok)
 obtain ⟨t2, q2, e2, z2, h2⟩ := od1_ hL m hm (k' + 1) Qa h1 (vh_ (encC (symL a b c d))) hd
 obtain ⟨v, q3, e3, _, _, h3⟩ := hm_ hL h2 2 Qa Qa
 unfold na_.f
 rw [e1]
 simp only [Option.bind_some]
 rw [ne1_ _ _ _ _ _ Qa]
 simp only [Option.bind_some]
 unfold pv_
 rw [if_pos ok, e2]
 simp only [Option.bind_some]
 rw [e3]
 simp only [Option.bind_some]
 by_cases hv : v = 1
 ·rw [if_pos hv, vx_ t2 Qa _ Qa]
  simp only [Option.bind_some]
  exact mf1_ hL k' h3 (bj_ t2) (by rw [gp_, z2])
 ·rw [if_neg hv]
  exact mf1_ hL k' h3 t2 z2
theorem small5 : ∀ x ∈ ([(⟨#[48]⟩ : ByteArray), (⟨#[49]⟩ : ByteArray), (⟨#[49]⟩ : ByteArray), (⟨#[48]⟩ : ByteArray), (⟨#[63]⟩ : ByteArray)] : List ByteArray), x.size ≤ 1 := by decide
theorem ie1_ {L : List Int} (hL : L.length ≤ 600) : ∀ (d i k : Nat) (p : Int) (s : ByteArray), i + d = 74 → d < k → TA p → s.size ≤ i → ∃ t q, qb_.l0 k s (i : Int) L p = some (t, q) ∧ t.size ≤ 74 ∧ TA q := by
 intro d
 induction d with
 | zero =>
  intro i k p s hi hk hp hs
  obtain ⟨k, rfl⟩ : ∃ m, k = m + 1 := ⟨k - 1, Qa⟩
  simp only [qb_.l0]
  rw [if_neg Qa]
  exact ⟨_, _, rfl, Qa, hp⟩
 | succ d ih =>
  intro i k p s hi hk hp hs
  obtain ⟨k, rfl⟩ : ∃ m, k = m + 1 := ⟨k - 1, Qa⟩
  obtain ⟨u, q, e, u0, u1, hq⟩ := hm_ hL hp 5 Qa Qa
  have hz := qu_ _ u small5
  obtain ⟨t, q2, e2, h2, hq2⟩ := ih (i + 1) k q _ Qa Qa hq (show (s ++ rdOf ByteArray.empty ([(⟨#[48]⟩ : ByteArray), (⟨#[49]⟩ : ByteArray), (⟨#[49]⟩ : ByteArray), (⟨#[48]⟩ : ByteArray), (⟨#[63]⟩ : ByteArray)] : List ByteArray) u).size ≤ i + 1 by rw [ByteArray.size_append]; omega)
  simp only [qb_.l0]
  rw [if_pos Qa]
  simp only [Option.bind_some]
  rw [e]
  simp only [Option.bind_some]
  rw [if_pos u0, if_pos (by simpa using u1), if_pos Qa, show wrap64 ((i : Int) + 1) = ((i + 1 : Nat) : Int) from by unfold wrap64; omega, e2]
  exact ⟨_, _, rfl, h2, hq2⟩
theorem ph1_ {L : List Int} (hL : L.length ≤ 600) (k : Nat) (hk : 100 ≤ k) {p : Int} (hp : TA p) : ∃ t q, qb_.f k L p = some (t, q) ∧ t.size ≤ 74 ∧ TA q := by
 unfold qb_.f
 exact ie1_ hL 74 0 k p _ Qa Qa hp Qh
theorem qg1_ (w : List Int) (hw : w.length = 12) (h : (decC w).2.2 = 0) : (decC w).1.length = 6 := by
 rw [ds_] at h ⊢
 by_cases hh : isWord w (-1) = true
 rotate_left
 ·rw [es_ hh] at h
  exact absurd h Qh
 by_cases hc : ∃ c, Near w c
 rotate_left
 ·rw [am_ hh (fun c q => hc ⟨c, q⟩)] at h
  exact absurd h Qh
 obtain ⟨c, hc⟩ := hc
 rw [bm_ hh hc]
 have : c.length = w.length := hc.len
 show (c.take (w.length - 6)).length = 6
 rw [List.length_take]; omega
theorem read_f (s : ByteArray) (k : Nat) (hk : 1100 ≤ k) : ∃ v, ee_.f s = some v ∧ kc_.f k s = some v := by
 unfold ee_.f kc_.f
 rw [aq_, lw_ s k hk]
 simp only [Option.bind_some]
 by_cases h0 : (upS s).2 = 0
 rotate_left
 ·rw [if_neg h0, if_neg h0]
  exact ⟨_, rfl, rfl⟩
 rw [if_pos h0, if_pos h0, by_, qe1_ _ k Qa]
 have hw : tw_ (upS s).1 = (yn_ (upS s).1, 0) := by
  unfold tw_
  rw [if_pos (li1_ (show upS s = ((upS s).1, 0) from by rw [← h0]))]
 rw [hw]
 simp only [Option.bind_some]
 have hl := dv_ (upS s).1
 unfold tn_.f tp_.f
 rw [if_pos Qa]
 simp only [Option.bind_some]
 by_cases h1 : (decC (yn_ (upS s).1)).2.2 = 0
 rotate_left
 ·rw [if_neg h1, if_neg h1]
  exact ⟨_, rfl, rfl⟩
 have h6 := qg1_ _ hl h1
 rw [if_pos h1, if_pos h1]
 iterate 12 rw [if_pos Qa]
 rw [rr_, ou_, Int.mul_comm 1024, Int.mul_comm 32]
 simp only [Option.bind_some]
 split
 ·exact ⟨_, rfl, rfl⟩
 ·exact ⟨_, rfl, rfl⟩
theorem rd_l0 (xs : List ByteArray) (hx : xs.length = 4) : ∀ (d i k : Nat), i + d = 4 → 1200 + d < k → ab_.l0 k xs (i : Int) = some true := by
 intro d
 induction d with
 | zero =>
  intro i k hi hk
  obtain ⟨k, rfl⟩ : ∃ m, k = m + 1 := ⟨k - 1, Qa⟩
  simp only [ab_.l0]
  rw [if_neg Qa, kg1_]
  rfl
 | succ d ih =>
  intro i k hi hk
  obtain ⟨k, rfl⟩ : ∃ m, k = m + 1 := ⟨k - 1, Qa⟩
  obtain ⟨v, h1, h2⟩ := read_f (rdOf ByteArray.empty xs (i : Int)) k Qa
  simp only [ab_.l0]
  rw [if_pos Qa, if_pos Qa, if_pos Qa, h1, h2]
  simp only [Option.bind_some]
  rw [if_neg Qo, if_pos trivial, if_pos trivial, show wrap64 ((i : Int) + 1) = ((i + 1 : Nat) : Int) from by unfold wrap64; omega]
  exact ih (i + 1) k Qa Qa
theorem zq_ : ab_.Pure := by
 intro l s _ _ _ _
 obtain ⟨K, hK⟩ : ∃ K, K = 1300 := ⟨_, rfl⟩
 refine ⟨K, ?_⟩
 obtain ⟨L, e0, hL, hp⟩ := new_f l
 obtain ⟨t1, q1, e1, _, h1⟩ := kt_ hL 4 Qa K Qa hp
 obtain ⟨t2, q2, e2, _, h2⟩ := kt_ hL 12 Qa K Qa h1
 obtain ⟨t3, q3, e3, _, h3⟩ := ph1_ hL K Qa h2
 unfold ab_.f
 rw [e0]
 simp only [Option.bind_some]
 rw [show (4 : Int) = ((4 : Nat) : Int) from rfl, e1]
 simp only [Option.bind_some]
 rw [show (12 : Int) = ((12 : Nat) : Int) from rfl, e2]
 simp only [Option.bind_some]
 rw [e3]
 simp only [Option.bind_some]
 exact rd_l0 _ rfl 4 0 K Qa Qa
end Go.Proofs.YtpkhgapifnjbeaaGreatDoor.Pure
end
section
namespace Go.Proofs.YtpkhgapifnjbeaaGreatDoor.stripReads
open Go.ChangeShapes Go.WideShapes Go.ChangeAt RowKit
open Go.ChangeMaps (open_string shut_string)
theorem own : ownKnob Tryz.prog.godebug = none := by kernel_rfl
theorem laidOut : laidOutB Tryz.prog = true := by kernel_rfl
def IsRow (k : IntKind) (w : World) (a : Option Addr) (len cap : Nat) (zs : List Int) : Prop :=
 (a = none ∧ len = 0 ∧ cap = 0 ∧ zs = []) ∨
 ∃ x, a = some x ∧ len ≤ cap ∧ cap ≤ maxLen ∧ zs.length = cap ∧ (∀ i, i < zs.length → w.cell? (x.add i) = some (.int k (zs.getD i 0))) ∧ ∀ n ∈ zs, (Lit.int k n).wf = true
set_option maxRecDepth 100000 in
theorem lifted (os : Os) (started : os.Started) (H : Type) (enc : TypeId × Value → H) :
  ReturnsInHanded {} Tryz.checked os 7 .any (fun w args => (Rows.stripReadsSpec.pre enc Tryz.prog Tryz.f7 [] false w args ∧ laidMetH Tryz.prog Rows.stripReadsRow.laid w) ∧ sizedMet enc Tryz.prog Tryz.f7 (OpenSpec.ofChange Rows.stripReadsSpec) false w args) (Rows.stripReadsSpec.post enc Tryz.prog Tryz.f7 false true false false) := by
 refine returnsInHanded_of_change_and (C := Tryz.checked) (X := (fun w _ => laidMetH Tryz.prog Rows.stripReadsRow.laid w)) (fun _ _ _ hh h => h.of_heap hh) own started Qb Tryz.func7
  (ChangeSpec.witness_shaped (enc := enc) (C := Tryz.checked) (os := os) (X := (fun w _ => laidMetH Tryz.prog Rows.stripReadsRow.laid w)) false (World.laidAll Tryz.prog os Rows.stripReadsRow.laid) #[.slice none 0 0, .string ByteArray.empty] 8 (World.laidAll_os _ _ _)
   (World.shaped_of_ZipB Qb Qb) Qb Qb Qb
   (by rw [MakeChecks.laidMetH_plain _ _ _ Qb]; exact laidMet_laidAll _ Qb Qb)) ?_
 intro W base args ds gs before hval0 hW hcnd hsz0 hL _
 clear hL
 have hsz : (DataW.weightsEach Tryz.prog (Tryz.f7.params.toList ++ Rows.stripReadsSpec.plain.varTypes Tryz.prog) (ds ++ gs)).all (· ≤ reachBytes) = true := hsz0
 have hval : ∀ (j : Nat) t v, Tryz.f7.params[j]? = some t → args[j]? = some v → Value.okWide Tryz.prog W .any base t v := hval0
 have hW' := hW
 obtain ⟨p, q, hA0, hV, rfl, hfz, hnd⟩ := hW
 have hA : DataW.TrodAll enc Tryz.prog W 0 (fun _ => true) true Tryz.f7.params.toList args.toList ds p := hA0
 rw [Tryz.params7] at hA hval hsz
 obtain ⟨v0, vs0, d0, ds0, p0, q0, hargs, rfl, rfl, h0, r0⟩ := trodAll_cons hA
 obtain ⟨v1, vs1, d1, ds1, p1, q1, rfl, rfl, rfl, h1, r1⟩ := trodAll_cons r0
 obtain ⟨rfl, rfl, rfl⟩ := trodAll_nil r1
 obtain rfl : args = #[v0, v1] := by cases args; simp_all
 obtain ⟨rfl, rfl⟩ := trodVars_none hV
 obtain ⟨a0, len0, cap0, rfl⟩ := okWide_slice Tryz.underlying22 (hval 0 22 v0 rfl rfl)
 have k0 := h0
 have lt0 : ∀ x ∈ p0, x.block < W.heap.size := by obtain ⟨m, hm⟩ := k0; exact DataW.trod_lt m _ _ _ hm
 obtain ⟨z0, w0⟩ : ∃ zs, IsRow .i64 W a0 len0 cap0 zs := by
  obtain ⟨fuel, hf⟩ := h0
  rcases open_ints Tryz.underlying22 Tryz.underlying3 Qb hf with ⟨hcs, _⟩ | ⟨x, l, c, zs, hcs, _, hl, hm, hz, _, hcell, hwz⟩
  ·simp [Value.cells] at hcs
   obtain ⟨rfl, rfl, rfl⟩ := hcs
   exact ⟨[], .inl ⟨rfl, rfl, rfl, rfl⟩⟩
  simp [Value.cells] at hcs
  obtain ⟨rfl, rfl, rfl⟩ := hcs
  exact ⟨zs, .inr ⟨_, rfl, hl, hm, by simpa using hz, hcell, hwz⟩⟩
 have y0 : len0 * 8 ≤ 140737488351232 := Go.Proofs.Zw.PrintWords.tz_ hsz (j := 0) (t := 22) rfl rfl Tryz.underlying22 Tryz.underlying3 Qb Qb h0
 obtain ⟨a1, rfl, rfl, rfl, y1⟩ := open_string Tryz.underlying9 (hval 1 9 v1 rfl rfl) h1
 have w1 : a1.size ≤ 140737488351232 := by
  have z := sized_string hsz (j := 1) (t := 9) rfl rfl
  rw [Array.length_toList] at z
  exact z
 clear hA0 hval0 hsz0 hsz
 refine (T.ab_.walk Pure.zq_ a0 len0 cap0 z0 a1 W w0 y0 w1).mono fun e W' ⟨he, bel⟩ => ?_
 subst he
 exact ⟨_, rfl, _, _, _, [], _, [], hW', trodAll_mk1 (shut_bool Tryz.underlying4 _), (trodAll_cons_mk (Below.trod laidOut Qb (of_decide_eq_true Qb) k0 bel lt0) (trodAll_cons_mk (shut_string Tryz.underlying9 y1) trodAll_mk0)), rfl, bel.frame _, fun h => by cases h⟩
theorem over : Rows.stripReadsRow.holds Tryz.pinned (OpenSpec.ofChange Rows.stripReadsSpec) :=
 OpenClaim.holds_of_wide 7 Tryz.f7 rfl rfl rfl rfl rfl rfl rfl ⟨rfl, rfl, rfl, rfl, rfl⟩ rfl rfl rfl rfl rfl Qb Tryz.func7 Qb
  (of_decide_eq_true Qb) (by unfold Func.isWrapper; first | (rw [if_pos (by decide +kernel)]; kernel_rfl) | (rw [if_neg (by decide +kernel)]; exact ⟨rfl, rfl⟩))
  (fun os started H enc _ => lifted os started H enc)
theorem card : Rows.StripReadsCardSaid :=
 Claim7.holds_tied_plain_at .later [] [.data, .pinned] true (true, "7e6822926169cfe1c3a292a53cf000915babf8db10164626460e51774619d438") false over (fun _ h => by cases h) Qb (fun _ h => by cases h) stripReads_row_tie rfl ⟨rfl, rfl⟩ Qb rfl
  (fun f fn hf hfn => by
   obtain rfl : f = 7 := Option.some.inj ((show Tryz.prog.funcNamed "awardingbody/awardingbodylaw19.StripReads" = some 7 by kernel_rfl).symm.trans hf) |>.symm
   obtain rfl : fn = Tryz.f7 := (Option.some.inj (Tryz.func7.symm.trans hfn)).symm
   exact ⟨Qb, fun j t ht => by
    rw [Tryz.params7] at ht
    have hm : t ∈ [22, 9] := by simpa using Array.mem_of_getElem? ht
    have hall : ([22, 9].all fun u => !Tryz.prog.wantsStandIn u) = true := by kernel_rfl
    exact (show Tryz.prog.wantsStandIn t = false by simpa using List.all_eq_true.1 hall t hm)⟩)
  Qb
end Go.Proofs.YtpkhgapifnjbeaaGreatDoor.stripReads
namespace Go.Proofs.YtpkhgapifnjbeaaGreatDoor
theorem stripReads_card_holds : Rows.StripReadsCardSaid := stripReads.card
end Go.Proofs.YtpkhgapifnjbeaaGreatDoor
end
