/- Put together by pack2.py. -/
import Derived.Test.YtpkhgapifnjbeaaDoorRows
import Derived.Lay
import Derived.LaidOnce
import Derived.SevenTiedAt
import Derived.Test.YtpkhgapifnjbeaaDoorTie
import Derived.Test.YtpkhgapifnjbeaaDoorCards
import Derived.WalkKit
import Derived.ProofKit
import Derived.OpenShut
import Derived.ShutString
import Derived.ChangeOld
import Derived.Below
import Derived.SizedLaws
import Derived.Test.YtpkhgapifnjbeaaDoorMa0
section
namespace Go.Proofs.YtpkhgapifnjbeaaDoor.T
open Go.RowKit Go.Proofs.YtpkhgapifnjbeaaDoor.G Go.Proofs.YtpkhgapifnjbeaaDoor.Rs Go.Proofs.YtpkhgapifnjbeaaDoorW.PrintWords Go.Proofs.YtpkhgapifnjbeaaDoorW.PrintLast Go.Proofs.YtpkhgapifnjbeaaDoorW.PrintMore
attribute [local go_sem] qc_ sc_ cd_ dd_ jc_ kc_ rc_ tc_
set_option linter.unusedVariables false
set_option linter.unusedSimpArgs false
attribute [local go_sem high] eqA26
def ob_.f  : Option (Bool) := (df_.f 3 9999 2 1).bind fun bt180 => ((ef_.f bt180.1).bind fun t182 => ((hd_.f t182).bind fun bt183 => ((df_.f 0 0 0 0).bind fun bt190 => (if bt180.2 = 0 then (if (bt180.1.size : Int) = 74 then (if bt183.2.2.2.2.2 = 0 then (if bt183.2.2.2.2.1 = 0 then (if (bt183.1 == 3 && (bt183.2.1 == 9999 && (bt183.2.2.1 == 2 && (bt183.2.2.2.1 == 1)))) = true then (if bt190.2 = 0 then (if (bt190.1.size : Int) = 74 then (if 0 ≤ 8 then (if 8 ≤ (bt190.1.size : Int) then (some ((bt190.1.extract 0 8).toList == ([49, 49, 49, 49, 49, 49, 49, 48] : List UInt8))) else (none)) else (none)) else (some false)) else (some false)) else (some false)) else (some false)) else (some false)) else (some false)) else (some false)))))
set_option maxHeartbeats 8000000 in
set_option maxRecDepth 100000 in
theorem ob_.calls  (r : Bool) (w : World) (h : ob_.f  = some r) (hr_ : r = true) :
  Calls Tryd.prog 11 #[] w fun e w' => e = .returned (.bool r) ∧ Below w.heap.size w w' := by
 have HRT := ba_.mk hr_
 clear hr_
 have hu26 := Tryd.underlying26
 have HB := ba_.mk (Below.refl w.heap.size w)
 have H : ((df_.f 3 9999 2 1).bind fun bt180 => ((ef_.f bt180.1).bind fun t182 => ((hd_.f t182).bind fun bt183 => ((df_.f 0 0 0 0).bind fun bt190 => (if bt180.2 = 0 then (if (bt180.1.size : Int) = 74 then (if bt183.2.2.2.2.2 = 0 then (if bt183.2.2.2.2.1 = 0 then (if (bt183.1 == 3 && (bt183.2.1 == 9999 && (bt183.2.2.1 == 2 && (bt183.2.2.2.1 == 1)))) = true then (if bt190.2 = 0 then (if (bt190.1.size : Int) = 74 then (if 0 ≤ 8 then (if 8 ≤ (bt190.1.size : Int) then (some ((bt190.1.extract 0 8).toList == ([49, 49, 49, 49, 49, 49, 49, 48] : List UInt8))) else (none)) else (none)) else (some false)) else (some false)) else (some false)) else (some false)) else (some false)) else (some false)) else (some false)))))) = some r := h
 clear h
 replace H := Option.bind_eq_some_iff.mp H
 obtain ⟨⟨t180, t181⟩, A10, H⟩ := H
 replace H : ((ef_.f t180).bind fun t182 => ((hd_.f t182).bind fun bt183 => ((df_.f 0 0 0 0).bind fun bt190 => (if t181 = 0 then (if (t180.size : Int) = 74 then (if bt183.2.2.2.2.2 = 0 then (if bt183.2.2.2.2.1 = 0 then (if (bt183.1 == 3 && (bt183.2.1 == 9999 && (bt183.2.2.1 == 2 && (bt183.2.2.2.1 == 1)))) = true then (if bt190.2 = 0 then (if (bt190.1.size : Int) = 74 then (if 0 ≤ 8 then (if 8 ≤ (bt190.1.size : Int) then (some ((bt190.1.extract 0 8).toList == ([49, 49, 49, 49, 49, 49, 49, 48] : List UInt8))) else (none)) else (none)) else (some false)) else (some false)) else (some false)) else (some false)) else (some false)) else (some false)) else (some false))))) = some r := H
 have A1 := ba_.mk A10
 clear A10
 replace H := Option.bind_eq_some_iff.mp H
 obtain ⟨t182, A20, H⟩ := H
 replace H : ((hd_.f t182).bind fun bt183 => ((df_.f 0 0 0 0).bind fun bt190 => (if t181 = 0 then (if (t180.size : Int) = 74 then (if bt183.2.2.2.2.2 = 0 then (if bt183.2.2.2.2.1 = 0 then (if (bt183.1 == 3 && (bt183.2.1 == 9999 && (bt183.2.2.1 == 2 && (bt183.2.2.2.1 == 1)))) = true then (if bt190.2 = 0 then (if (bt190.1.size : Int) = 74 then (if 0 ≤ 8 then (if 8 ≤ (bt190.1.size : Int) then (some ((bt190.1.extract 0 8).toList == ([49, 49, 49, 49, 49, 49, 49, 48] : List UInt8))) else (none)) else (none)) else (some false)) else (some false)) else (some false)) else (some false)) else (some false)) else (some false)) else (some false)))) = some r := H
 have A2 := ba_.mk A20
 clear A20
 replace H := Option.bind_eq_some_iff.mp H
 obtain ⟨⟨t183, t184, t185, t186, t187, t188⟩, A30, H⟩ := H
 replace H : ((df_.f 0 0 0 0).bind fun bt190 => (if t181 = 0 then (if (t180.size : Int) = 74 then (if t188 = 0 then (if t187 = 0 then (if (t183 == 3 && (t184 == 9999 && (t185 == 2 && (t186 == 1)))) = true then (if bt190.2 = 0 then (if (bt190.1.size : Int) = 74 then (if 0 ≤ 8 then (if 8 ≤ (bt190.1.size : Int) then (some ((bt190.1.extract 0 8).toList == ([49, 49, 49, 49, 49, 49, 49, 48] : List UInt8))) else (none)) else (none)) else (some false)) else (some false)) else (some false)) else (some false)) else (some false)) else (some false)) else (some false))) = some r := H
 have A3 := ba_.mk A30
 clear A30
 replace H := Option.bind_eq_some_iff.mp H
 obtain ⟨⟨t190, t191⟩, A40, H⟩ := H
 replace H : (if t181 = 0 then (if (t180.size : Int) = 74 then (if t188 = 0 then (if t187 = 0 then (if (t183 == 3 && (t184 == 9999 && (t185 == 2 && (t186 == 1)))) = true then (if t191 = 0 then (if (t190.size : Int) = 74 then (if 0 ≤ 8 then (if 8 ≤ (t190.size : Int) then (some ((t190.extract 0 8).toList == ([49, 49, 49, 49, 49, 49, 49, 48] : List UInt8))) else (none)) else (none)) else (some false)) else (some false)) else (some false)) else (some false)) else (some false)) else (some false)) else (some false)) = some r := H
 have A4 := ba_.mk A40
 clear A40
 by_cases c5 : t181 = 0
 ·rw [if_pos c5] at H
  have c5b0 : (t181 == 0) = true := beq_iff_eq.mpr c5
  have c5b1 : (t181 != 0) = false := bne_eq_false_iff_eq.mpr c5
  clear c5
  by_cases c6 : (t180.size : Int) = 74
  ·rw [if_pos c6] at H
   have c6b0 : ((t180.size : Int) == 74) = true := beq_iff_eq.mpr c6
   have c6b1 : ((t180.size : Int) != 74) = false := bne_eq_false_iff_eq.mpr c6
   clear c6
   by_cases c7 : t188 = 0
   ·rw [if_pos c7] at H
    have c7b0 : (t188 == 0) = true := beq_iff_eq.mpr c7
    have c7b1 : (t188 != 0) = false := bne_eq_false_iff_eq.mpr c7
    clear c7
    by_cases c8 : t187 = 0
    ·rw [if_pos c8] at H
     have c8b0 : (t187 == 0) = true := beq_iff_eq.mpr c8
     have c8b1 : (t187 != 0) = false := bne_eq_false_iff_eq.mpr c8
     clear c8
     by_cases c9 : (t183 == 3 && (t184 == 9999 && (t185 == 2 && (t186 == 1)))) = true
     ·rw [if_pos c9] at H
      have c9b0 : (t183 == 3 && (t184 == 9999 && (t185 == 2 && (t186 == 1)))) = true := c9
      (try (have c9b1 : decide (t183 = 3 && (t184 == 9999 && (t185 == 2 && (t186 == 1)))) = true := by simpa using c9))
      (try (have c9b2 : (t183 == 3 && (t184 == 9999 && (t185 == 2 && (t186 == 1)))) = true := by simpa using c9))
      clear c9
      by_cases c10 : t191 = 0
      ·rw [if_pos c10] at H
       have c10b0 : (t191 == 0) = true := beq_iff_eq.mpr c10
       have c10b1 : (t191 != 0) = false := bne_eq_false_iff_eq.mpr c10
       clear c10
       by_cases c11 : (t190.size : Int) = 74
       ·rw [if_pos c11] at H
        have c11b0 : ((t190.size : Int) == 74) = true := beq_iff_eq.mpr c11
        have c11b1 : ((t190.size : Int) != 74) = false := bne_eq_false_iff_eq.mpr c11
        clear c11
        by_cases c12 : 0 ≤ 8
        ·rw [if_pos c12] at H
         have c12b0 := eq_true c12
         have c12b1 : decide (0 ≤ 8) = true := decide_eq_true c12
         clear c12
         by_cases c13 : 8 ≤ (t190.size : Int)
         ·rw [if_pos c13] at H
          have c13b0 := eq_true c13
          have c13b1 : decide (8 ≤ (t190.size : Int)) = true := decide_eq_true c13
          clear c13
          obtain rfl := Option.some.inj H
          go_enter Tryd.func11, Tryd.ntmps11
          go_wp2_with (first | ((with_reducible refine hc_ (N := 1) rfl ?_); (try (refine jj_ (by rfl) ?_; dsimp only)); refine ed_ ?hg (N := 1) ?hd (cs := #[.int .i64 0, .int .i64 0, .int .i64 0, .int .i64 0]) (t := 26) ?hr ?_; (case hd => rfl); (case hg => rfl); (case hr => first | (go_simp; done) | (go_simp; rfl)); intro gb179 hg w14 hbox hb; have n0_ := ba_.mk (pa_ (by repeat (first | (with_reducible first | exact HB.out | apply da_ | apply aa_ | apply ca_) | exact HB.out)) hb); have n1_ := ba_.mk (hbox); have n2_ := ba_.mk ((by rw [hg]; exact (wa_ (by repeat (first | (with_reducible first | exact HB.out | apply da_ | apply aa_ | apply ca_) | exact HB.out))) : w.heap.size ≤ gb179)); have n3_ := ba_.mk ((by rw [hg]; exact (wa_ (by repeat (first | (with_reducible first | exact HB.out | apply da_ | apply aa_ | apply ca_) | exact HB.out))) : w.heap.size ≤ gb179)); clear HB; have HB := n0_; have BK179 := n1_; have GW179 := n2_; have GE179 := n3_; clear n0_ n1_ n2_ n3_; clear hb hbox hg; have hcz15_0 : w14.cell? ⟨gb179, 0, none⟩ = some (.int .i64 0) := (ga_ BK179.out 0).trans rfl; have hcz15_1 : w14.cell? ⟨gb179, 1, none⟩ = some (.int .i64 0) := (ga_ BK179.out 1).trans rfl; have hcz15_2 : w14.cell? ⟨gb179, 2, none⟩ = some (.int .i64 0) := (ga_ BK179.out 2).trans rfl; have hcz15_3 : w14.cell? ⟨gb179, 3, none⟩ = some (.int .i64 0) := (ga_ BK179.out 3).trans rfl; have hfz15_0 := ha_ BK179.out 0; have hfz15_1 := ha_ BK179.out 1; have hfz15_2 := ha_ BK179.out 2; have hfz15_3 := ha_ BK179.out 3) | ((with_reducible refine la_ (f := 18) rfl ?_); refine wb_ (some 12) rfl rfl Tryd.func18 (by kernel_rfl) rfl #[.agg #[.int .i64 3, .int .i64 9999, .int .i64 2, .int .i64 1]] rfl (by (try simp only [List.map_toArray, List.map_cons, List.map_nil]); first | done | rfl | (simp only [List.length_drop, List.length_take]; rfl)) ?_; (with_reducible refine (df_.calls 3 9999 2 1 t180 t181 _ A1.out).mono ?_); rintro e w16 ⟨rfl, hb⟩; refine ⟨_, rfl, ?_⟩; have n0_ := ba_.mk (zb_ (g := gb179) (o := .cells #[.int .i64 3, .int .i64 9999, .int .i64 2, .int .i64 1] 26 (0, 0)) (by (with_reducible repeat (first | refine ra_ ?_ _ | refine ab_ ?_ | refine qa_ ?_ _)); refine oc_ (cs := #[.int .i64 3, .int .i64 9999, .int .i64 2, .int .i64 0]) ?_ 3 _ rfl; (with_reducible repeat (first | refine ra_ ?_ _ | refine ab_ ?_ | refine qa_ ?_ _)); refine oc_ (cs := #[.int .i64 3, .int .i64 9999, .int .i64 0, .int .i64 0]) ?_ 2 _ rfl; (with_reducible repeat (first | refine ra_ ?_ _ | refine ab_ ?_ | refine qa_ ?_ _)); refine oc_ (cs := #[.int .i64 3, .int .i64 0, .int .i64 0, .int .i64 0]) ?_ 1 _ rfl; (with_reducible repeat (first | refine ra_ ?_ _ | refine ab_ ?_ | refine qa_ ?_ _)); refine oc_ (cs := #[.int .i64 0, .int .i64 0, .int .i64 0, .int .i64 0]) ?_ 0 _ rfl; (with_reducible repeat (first | refine ra_ ?_ _ | refine ab_ ?_ | refine qa_ ?_ _)); exact BK179.out) hb); have n1_ := ba_.mk (pa_ (by repeat (first | (with_reducible first | exact HB.out | apply da_ | apply aa_ | apply ca_ | refine ia_ ?_ GE179.out) | exact HB.out)) hb); clear BK179; clear HB; have BK179 := n0_; have HB := n1_; clear n0_ n1_; (try clear hb); (try clear hb2); (try clear hk); (try clear hi)) | ((with_reducible refine la_ (f := 20) rfl ?_); refine wb_ (some 17) rfl rfl Tryd.func20 (by kernel_rfl) rfl #[.string t180] rfl (by (try simp only [List.map_toArray, List.map_cons, List.map_nil]); first | done | rfl | (simp only [List.length_drop, List.length_take]; rfl)) ?_; (with_reducible refine (ef_.calls t180 t182 _ A2.out).mono ?_); rintro e w17 ⟨rfl, hb⟩; refine ⟨_, rfl, ?_⟩; have n0_ := ba_.mk (zb_ (g := gb179) (o := .cells #[.int .i64 3, .int .i64 9999, .int .i64 2, .int .i64 1] 26 (0, 0)) (by (with_reducible repeat (first | refine ra_ ?_ _ | refine ab_ ?_ | refine qa_ ?_ _)); exact BK179.out) hb); have n1_ := ba_.mk (pa_ (by repeat (first | (with_reducible first | exact HB.out | apply da_ | apply aa_ | apply ca_ | refine ia_ ?_ GE179.out) | exact HB.out)) hb); clear BK179; clear HB; have BK179 := n0_; have HB := n1_; clear n0_ n1_; (try clear hb); (try clear hb2); (try clear hk); (try clear hi)) | ((with_reducible refine la_ (f := 19) rfl ?_); refine wb_ (some 18) rfl rfl Tryd.func19 (by kernel_rfl) rfl #[.string t182] rfl (by (try simp only [List.map_toArray, List.map_cons, List.map_nil]); first | done | rfl | (simp only [List.length_drop, List.length_take]; rfl)) ?_; (with_reducible refine (hd_.calls t182 t183 t184 t185 t186 t187 t188 _ A3.out).mono ?_); rintro e w18 ⟨rfl, hb⟩; refine ⟨_, rfl, ?_⟩; have n0_ := ba_.mk (zb_ (g := gb179) (o := .cells #[.int .i64 3, .int .i64 9999, .int .i64 2, .int .i64 1] 26 (0, 0)) (by (with_reducible repeat (first | refine ra_ ?_ _ | refine ab_ ?_ | refine qa_ ?_ _)); exact BK179.out) hb); have n1_ := ba_.mk (pa_ (by repeat (first | (with_reducible first | exact HB.out | apply da_ | apply aa_ | apply ca_ | refine ia_ ?_ GE179.out) | exact HB.out)) hb); clear BK179; clear HB; have BK179 := n0_; have HB := n1_; clear n0_ n1_; (try clear hb); (try clear hb2); (try clear hk); (try clear hi)) | ((with_reducible refine hc_ (N := 4) rfl ?_); (try (refine jj_ (by rfl) ?_; dsimp only)); refine ed_ ?hg (N := 4) ?hd (cs := #[.int .i64 0, .int .i64 0, .int .i64 0, .int .i64 0]) (t := 26) ?hr ?_; (case hd => rfl); (case hg => rfl); (case hr => first | (go_simp; done) | (go_simp; rfl)); intro gb189 hg w19 hbox hb; have n0_ := ba_.mk (zb_ (g := gb179) (o := .cells #[.int .i64 3, .int .i64 9999, .int .i64 2, .int .i64 1] 26 (0, 0)) (by (with_reducible repeat (first | refine ra_ ?_ _ | refine ab_ ?_ | refine qa_ ?_ _)); exact BK179.out) hb); have n1_ := ba_.mk (pa_ (by repeat (first | (with_reducible first | exact HB.out | apply da_ | apply aa_ | apply ca_ | refine ia_ ?_ GE179.out) | exact HB.out)) hb); have n2_ := ba_.mk (hbox); have n3_ := ba_.mk ((by rw [hg]; exact (wa_ (by repeat (first | (with_reducible first | exact HB.out | apply da_ | apply aa_ | apply ca_ | refine ia_ ?_ GE179.out) | exact HB.out))) : w.heap.size ≤ gb189)); have n4_ := ba_.mk ((by rw [hg]; exact (wa_ (by repeat (first | (with_reducible first | exact HB.out | apply da_ | apply aa_ | apply ca_ | refine ia_ ?_ GE179.out) | exact HB.out))) : w.heap.size ≤ gb189)); have n5_ := ba_.mk ((by rw [hg]; exact Nat.ne_of_lt (kg_ (g := gb179) (o := .cells #[.int .i64 3, .int .i64 9999, .int .i64 2, .int .i64 1] 26 (0, 0)) (by (with_reducible repeat (first | refine ra_ ?_ _ | refine ab_ ?_ | refine qa_ ?_ _)); exact BK179.out)) : gb179 ≠ gb189)); have n6_ := ba_.mk ((by rw [hg]; exact Nat.ne_of_gt (kg_ (g := gb179) (o := .cells #[.int .i64 3, .int .i64 9999, .int .i64 2, .int .i64 1] 26 (0, 0)) (by (with_reducible repeat (first | refine ra_ ?_ _ | refine ab_ ?_ | refine qa_ ?_ _)); exact BK179.out)) : gb189 ≠ gb179)); clear BK179; clear HB; have BK179 := n0_; have HB := n1_; have BK189 := n2_; have GW189 := n3_; have GE189 := n4_; have NB179_189 := n5_; have NB189_179 := n6_; clear n0_ n1_ n2_ n3_ n4_ n5_ n6_; clear hb hbox hg; have hnb20 := NB189_179.out; have hnc20 := NB179_189.out; have hcz21_0 : w19.cell? ⟨gb189, 0, none⟩ = some (.int .i64 0) := (ga_ BK189.out 0).trans rfl; have hcz21_1 : w19.cell? ⟨gb189, 1, none⟩ = some (.int .i64 0) := (ga_ BK189.out 1).trans rfl; have hcz21_2 : w19.cell? ⟨gb189, 2, none⟩ = some (.int .i64 0) := (ga_ BK189.out 2).trans rfl; have hcz21_3 : w19.cell? ⟨gb189, 3, none⟩ = some (.int .i64 0) := (ga_ BK189.out 3).trans rfl; have hfz21_0 := ha_ BK189.out 0; have hfz21_1 := ha_ BK189.out 1; have hfz21_2 := ha_ BK189.out 2; have hfz21_3 := ha_ BK189.out 3) | ((with_reducible refine la_ (f := 18) rfl ?_); refine wb_ (some 24) rfl rfl Tryd.func18 (by kernel_rfl) rfl #[.agg #[.int .i64 0, .int .i64 0, .int .i64 0, .int .i64 0]] rfl (by (try simp only [List.map_toArray, List.map_cons, List.map_nil]); first | done | rfl | (simp only [List.length_drop, List.length_take]; rfl)) ?_; (with_reducible refine (df_.calls 0 0 0 0 t190 t191 _ A4.out).mono ?_); rintro e w22 ⟨rfl, hb⟩; refine ⟨_, rfl, ?_⟩; have n0_ := ba_.mk (zb_ (g := gb179) (o := .cells #[.int .i64 3, .int .i64 9999, .int .i64 2, .int .i64 1] 26 (0, 0)) (by (with_reducible repeat (first | refine ra_ ?_ _ | refine ab_ ?_ | refine qa_ ?_ _)); refine sf_ ?_ NB179_189.out _; (with_reducible repeat (first | refine ra_ ?_ _ | refine ab_ ?_ | refine qa_ ?_ _)); refine sf_ ?_ NB179_189.out _; (with_reducible repeat (first | refine ra_ ?_ _ | refine ab_ ?_ | refine qa_ ?_ _)); refine sf_ ?_ NB179_189.out _; (with_reducible repeat (first | refine ra_ ?_ _ | refine ab_ ?_ | refine qa_ ?_ _)); refine sf_ ?_ NB179_189.out _; (with_reducible repeat (first | refine ra_ ?_ _ | refine ab_ ?_ | refine qa_ ?_ _)); exact BK179.out) hb); have n1_ := ba_.mk (zb_ (g := gb189) (o := .cells #[.int .i64 t183, .int .i64 t184, .int .i64 t185, .int .i64 t186] 26 (0, 0)) (by (with_reducible repeat (first | refine ra_ ?_ _ | refine ab_ ?_ | refine qa_ ?_ _)); refine oc_ (cs := #[.int .i64 t183, .int .i64 t184, .int .i64 t185, .int .i64 0]) ?_ 3 _ rfl; (with_reducible repeat (first | refine ra_ ?_ _ | refine ab_ ?_ | refine qa_ ?_ _)); refine oc_ (cs := #[.int .i64 t183, .int .i64 t184, .int .i64 0, .int .i64 0]) ?_ 2 _ rfl; (with_reducible repeat (first | refine ra_ ?_ _ | refine ab_ ?_ | refine qa_ ?_ _)); refine oc_ (cs := #[.int .i64 t183, .int .i64 0, .int .i64 0, .int .i64 0]) ?_ 1 _ rfl; (with_reducible repeat (first | refine ra_ ?_ _ | refine ab_ ?_ | refine qa_ ?_ _)); refine oc_ (cs := #[.int .i64 0, .int .i64 0, .int .i64 0, .int .i64 0]) ?_ 0 _ rfl; (with_reducible repeat (first | refine ra_ ?_ _ | refine ab_ ?_ | refine qa_ ?_ _)); exact BK189.out) hb); have n2_ := ba_.mk (pa_ (by repeat (first | (with_reducible first | exact HB.out | apply da_ | apply aa_ | apply ca_ | refine ia_ ?_ GE179.out | refine ia_ ?_ GE189.out) | exact HB.out)) hb); clear BK179; clear BK189; clear HB; have BK179 := n0_; have BK189 := n1_; have HB := n2_; clear n0_ n1_ n2_; (try clear hb); (try clear hb2); (try clear hk); (try clear hi); have hcz23_0 : w22.cell? ⟨gb189, 0, none⟩ = some (.int .i64 t183) := (ga_ BK189.out 0).trans rfl; have hcz23_1 : w22.cell? ⟨gb189, 1, none⟩ = some (.int .i64 t184) := (ga_ BK189.out 1).trans rfl; have hcz23_2 : w22.cell? ⟨gb189, 2, none⟩ = some (.int .i64 t185) := (ga_ BK189.out 2).trans rfl; have hcz23_3 : w22.cell? ⟨gb189, 3, none⟩ = some (.int .i64 t186) := (ga_ BK189.out 3).trans rfl; have hfz23_0 := ha_ BK189.out 0; have hfz23_1 := ha_ BK189.out 1; have hfz23_2 := ha_ BK189.out 2; have hfz23_3 := ha_ BK189.out 3; have hcz24_0 : w22.cell? ⟨gb179, 0, none⟩ = some (.int .i64 3) := (ga_ BK179.out 0).trans rfl; have hcz24_1 : w22.cell? ⟨gb179, 1, none⟩ = some (.int .i64 9999) := (ga_ BK179.out 1).trans rfl; have hcz24_2 : w22.cell? ⟨gb179, 2, none⟩ = some (.int .i64 2) := (ga_ BK179.out 2).trans rfl; have hcz24_3 : w22.cell? ⟨gb179, 3, none⟩ = some (.int .i64 1) := (ga_ BK179.out 3).trans rfl; have hfz24_0 := ha_ BK179.out 0; have hfz24_1 := ha_ BK179.out 1; have hfz24_2 := ha_ BK179.out 2; have hfz24_3 := ha_ BK179.out 3))
          go_ret
          exact ⟨by first | rfl | (simp [xa_, ya_] <;> rfl) | (simp [*, xa_, ya_] <;> rfl), by repeat (first | (with_reducible first | exact HB.out | apply da_ | apply aa_ | apply ca_ | refine ia_ ?_ GE179.out | refine ia_ ?_ GE189.out) | exact HB.out)⟩
         ·rw [if_neg c13] at H
          exact absurd H (by simp)
        ·rw [if_neg c12] at H
         exact absurd H (by simp)
       ·rw [if_neg c11] at H
        have c11b0 : ((t190.size : Int) == 74) = false := beq_eq_false_iff_ne.mpr c11
        have c11b1 : ((t190.size : Int) != 74) = true := bne_iff_ne.mpr c11
        exact absurd ((Option.some.inj H).trans HRT.out) (by decide)
      ·rw [if_neg c10] at H
       have c10b0 : (t191 == 0) = false := beq_eq_false_iff_ne.mpr c10
       have c10b1 : (t191 != 0) = true := bne_iff_ne.mpr c10
       exact absurd ((Option.some.inj H).trans HRT.out) (by decide)
     ·rw [if_neg c9] at H
      have c9b0 : (t183 == 3 && (t184 == 9999 && (t185 == 2 && (t186 == 1)))) = false := by simpa using c9
      (try (have c9b1 : decide (t183 = 3 && (t184 == 9999 && (t185 == 2 && (t186 == 1)))) = false := by simpa using c9))
      (try (have c9b2 : (t183 == 3 && (t184 == 9999 && (t185 == 2 && (t186 == 1)))) = false := by simpa using c9))
      (try (have c9b3 : ¬ (t183 = 3 && (t184 == 9999 && (t185 == 2 && (t186 == 1)))) := by simpa using c9))
      clear c9
      exact absurd ((Option.some.inj H).trans HRT.out) (by decide)
    ·rw [if_neg c8] at H
     have c8b0 : (t187 == 0) = false := beq_eq_false_iff_ne.mpr c8
     have c8b1 : (t187 != 0) = true := bne_iff_ne.mpr c8
     exact absurd ((Option.some.inj H).trans HRT.out) (by decide)
   ·rw [if_neg c7] at H
    have c7b0 : (t188 == 0) = false := beq_eq_false_iff_ne.mpr c7
    have c7b1 : (t188 != 0) = true := bne_iff_ne.mpr c7
    exact absurd ((Option.some.inj H).trans HRT.out) (by decide)
  ·rw [if_neg c6] at H
   have c6b0 : ((t180.size : Int) == 74) = false := beq_eq_false_iff_ne.mpr c6
   have c6b1 : ((t180.size : Int) != 74) = true := bne_iff_ne.mpr c6
   exact absurd ((Option.some.inj H).trans HRT.out) (by decide)
 ·rw [if_neg c5] at H
  have c5b0 : (t181 == 0) = false := beq_eq_false_iff_ne.mpr c5
  have c5b1 : (t181 != 0) = true := bne_iff_ne.mpr c5
  exact absurd ((Option.some.inj H).trans HRT.out) (by decide)
end Go.Proofs.YtpkhgapifnjbeaaDoor.T
end
section
namespace Go.Proofs.YtpkhgapifnjbeaaDoor.T
open Go.RowKit Go.Proofs.YtpkhgapifnjbeaaDoor.G Go.Proofs.YtpkhgapifnjbeaaDoor.Rs Go.Proofs.YtpkhgapifnjbeaaDoorW.PrintWords Go.Proofs.YtpkhgapifnjbeaaDoorW.PrintLast Go.Proofs.YtpkhgapifnjbeaaDoorW.PrintMore
attribute [local go_sem] qc_ sc_ cd_ dd_ jc_ kc_ rc_ tc_
set_option linter.unusedVariables false
set_option linter.unusedSimpArgs false
def za_.f (k : Nat) (l0 : List Int) (a1 : Int) (a2 : Int) (a3 : Int) (a4 : Int) : Option (Bool) := (fd_.f l0).bind fun bt192 => ((gc_.f bt192.1 bt192.2 6).bind fun bt196 => ((ud_.f a1 a2 a3 a4).bind fun bt202 => ((pb_.f a1 a2 a3 a4).bind fun bt206 => ((ud_.f bt196.1 bt196.2.1 bt196.2.2.1 bt196.2.2.2.1).bind fun bt210 => ((pb_.f bt196.1 bt196.2.1 bt196.2.2.1 bt196.2.2.2.1).bind fun bt214 => ((ja_.f k bt202.1 bt206.1).bind fun t218 => (if t218 = true then (if bt202.2 = bt206.2 then ((ja_.f k bt210.1 bt214.1).bind fun t219 => (if t219 = true then (if bt210.2 = bt214.2 then ((xc_.f a1 a2 a3 a4).bind fun t220 => ((na_.f a1 a2 a3 a4).bind fun t221 => (if (t220 == t221) = true then ((xc_.f bt196.1 bt196.2.1 bt196.2.2.1 bt196.2.2.2.1).bind fun t222 => ((na_.f bt196.1 bt196.2.1 bt196.2.2.1 bt196.2.2.2.1).bind fun t223 => (if (t222 == t223) = true then ((ob_.f).bind fun t224 => (some t224)) else (some false)))) else (some false)))) else (some false)) else (some false))) else (some false)) else (some false))))))))
theorem za_.mono : ∀ a0 a1 a2 a3 a4 k, LeO (za_.f k a0 a1 a2 a3 a4) (za_.f (k + 1) a0 a1 a2 a3 a4) := by
 intro a0 a1 a2 a3 a4 k
 unfold za_.f
 repeat' first
   | (with_reducible exact ja_.mono _ _ _)
   | (with_reducible exact LeO.refl _)
   | (with_reducible exact LeO.none _)
   | (with_reducible refine LeO.ite ?_ ?_)
   | (with_reducible refine LeO.bind ?_ (fun _ => ?_))
   | exact ja_.mono _ _ _
   | exact LeO.none _
   | refine LeO.ite ?_ ?_
   | refine LeO.bind ?_ (fun _ => ?_)
def za_.T8 : Bool × List (List Nat × List Nat) := (true, [([], []), ([], []), ([0, 1], [0, 1]), ([2, 2], [2]), ([3], [3]), ([3], [3]), ([4, 5, 3], [3, 4, 5]), ([3, 6], [3, 6]), ([7, 3], [7]), ([8], [8]), ([8], [8]), ([9, 10, 8, 8], [8, 9, 10]), ([8, 11], [8, 11]), ([12, 11], [12]), ([13], [13]), ([13], [13]), ([14, 15, 13], [13, 14, 15]), ([13, 16], [13, 16]), ([17, 13], [17]), ([18], [18]), ([19, 18, 18], [18, 19]), ([18], [18]), ([21, 20, 18], [18, 21]), ([20, 22, 18], [18, 20, 22]), ([18, 23], [18, 23]), ([24, 22], [24]), ([25], [25]), ([26, 25, 25], [25, 26]), ([25], [25]), ([28, 27, 25], [25, 28]), ([27, 29, 25], [25, 27, 29]), ([25, 30], [25, 30]), ([31, 29], [31]), ([32, 32], [32]), ([32, 33], [32, 33]), ([34, 33, 0, 1, 2, 3, 4, 5, 6, 7, 8, 9, 10, 11, 12, 13, 14, 15, 16, 17, 18, 19, 20, 21, 22, 23, 24, 25, 26, 27, 28, 29, 30, 31, 32, 33, 34], [34])])
def za_.B8 : List Nat := [0, 0, 3, 7, 15, 15, 63, 127, 255, 511, 511, 2047, 4095, 8191, 16383, 16383, 65535, 131071, 262143, 524287, 1048575, 524287, 4194303, 8388607, 16777215, 33554431, 67108863, 134217727, 67108863, 536870911, 1073741823, 2147483647, 4294967295, 8589934591, 17179869183, 34359738367]
theorem za_.tab8 : rtab .any (opsOf Tryd.f3 8) = za_.T8 := by kernel_rfl
theorem za_.zm_ : jf_ za_.T8.2 za_.B8 = true := by kernel_rfl
set_option maxHeartbeats 8000000 in
set_option maxRecDepth 100000 in
theorem za_.calls (k : Nat) (A0 : Option Addr) (c0 : Nat) (l0 : List Int) (a1 : Int) (a2 : Int) (a3 : Int) (a4 : Int) (r : Bool) (w : World) (hr0 : Kd.C (Kd.int .i64) w A0 l0.length l0) (hc0 : l0.length ≤ c0) (h : za_.f k l0 a1 a2 a3 a4 = some r) (hr_ : r = true) :
  Calls Tryd.prog 3 #[.slice A0 l0.length c0, .int .i64 a1, .int .i64 a2, .int .i64 a3, .int .i64 a4] w fun e w' => e = .returned (.bool r) ∧ Below w.heap.size w w' := by
 have HRT := ba_.mk hr_
 clear hr_
 have hu26 := Tryd.underlying26
 have HR0 := ba_.mk hr0
 have HC0 := ba_.mk hc0
 clear hr0 hc0
 have HB := ba_.mk (Below.refl w.heap.size w)
 have H : ((fd_.f l0).bind fun bt192 => ((gc_.f bt192.1 bt192.2 6).bind fun bt196 => ((ud_.f a1 a2 a3 a4).bind fun bt202 => ((pb_.f a1 a2 a3 a4).bind fun bt206 => ((ud_.f bt196.1 bt196.2.1 bt196.2.2.1 bt196.2.2.2.1).bind fun bt210 => ((pb_.f bt196.1 bt196.2.1 bt196.2.2.1 bt196.2.2.2.1).bind fun bt214 => ((ja_.f k bt202.1 bt206.1).bind fun t218 => (if t218 = true then (if bt202.2 = bt206.2 then ((ja_.f k bt210.1 bt214.1).bind fun t219 => (if t219 = true then (if bt210.2 = bt214.2 then ((xc_.f a1 a2 a3 a4).bind fun t220 => ((na_.f a1 a2 a3 a4).bind fun t221 => (if (t220 == t221) = true then ((xc_.f bt196.1 bt196.2.1 bt196.2.2.1 bt196.2.2.2.1).bind fun t222 => ((na_.f bt196.1 bt196.2.1 bt196.2.2.1 bt196.2.2.2.1).bind fun t223 => (if (t222 == t223) = true then ((ob_.f).bind fun t224 => (some t224)) else (some false)))) else (some false)))) else (some false)) else (some false))) else (some false)) else (some false))))))))) = some r := h
 clear h
 replace H := Option.bind_eq_some_iff.mp H
 obtain ⟨⟨t192, t193⟩, A60, H⟩ := H
 replace H : ((gc_.f t192 t193 6).bind fun bt196 => ((ud_.f a1 a2 a3 a4).bind fun bt202 => ((pb_.f a1 a2 a3 a4).bind fun bt206 => ((ud_.f bt196.1 bt196.2.1 bt196.2.2.1 bt196.2.2.2.1).bind fun bt210 => ((pb_.f bt196.1 bt196.2.1 bt196.2.2.1 bt196.2.2.2.1).bind fun bt214 => ((ja_.f k bt202.1 bt206.1).bind fun t218 => (if t218 = true then (if bt202.2 = bt206.2 then ((ja_.f k bt210.1 bt214.1).bind fun t219 => (if t219 = true then (if bt210.2 = bt214.2 then ((xc_.f a1 a2 a3 a4).bind fun t220 => ((na_.f a1 a2 a3 a4).bind fun t221 => (if (t220 == t221) = true then ((xc_.f bt196.1 bt196.2.1 bt196.2.2.1 bt196.2.2.2.1).bind fun t222 => ((na_.f bt196.1 bt196.2.1 bt196.2.2.1 bt196.2.2.2.1).bind fun t223 => (if (t222 == t223) = true then ((ob_.f).bind fun t224 => (some t224)) else (some false)))) else (some false)))) else (some false)) else (some false))) else (some false)) else (some false)))))))) = some r := H
 have A6 := ba_.mk A60
 clear A60
 replace H := Option.bind_eq_some_iff.mp H
 obtain ⟨⟨t196, t197, t198, t199, t200⟩, A70, H⟩ := H
 replace H : ((ud_.f a1 a2 a3 a4).bind fun bt202 => ((pb_.f a1 a2 a3 a4).bind fun bt206 => ((ud_.f t196 t197 t198 t199).bind fun bt210 => ((pb_.f t196 t197 t198 t199).bind fun bt214 => ((ja_.f k bt202.1 bt206.1).bind fun t218 => (if t218 = true then (if bt202.2 = bt206.2 then ((ja_.f k bt210.1 bt214.1).bind fun t219 => (if t219 = true then (if bt210.2 = bt214.2 then ((xc_.f a1 a2 a3 a4).bind fun t220 => ((na_.f a1 a2 a3 a4).bind fun t221 => (if (t220 == t221) = true then ((xc_.f t196 t197 t198 t199).bind fun t222 => ((na_.f t196 t197 t198 t199).bind fun t223 => (if (t222 == t223) = true then ((ob_.f).bind fun t224 => (some t224)) else (some false)))) else (some false)))) else (some false)) else (some false))) else (some false)) else (some false))))))) = some r := H
 have A7 := ba_.mk A70
 clear A70
 replace H := Option.bind_eq_some_iff.mp H
 obtain ⟨⟨t202, t205⟩, A80, H⟩ := H
 replace H : ((pb_.f a1 a2 a3 a4).bind fun bt206 => ((ud_.f t196 t197 t198 t199).bind fun bt210 => ((pb_.f t196 t197 t198 t199).bind fun bt214 => ((ja_.f k t202 bt206.1).bind fun t218 => (if t218 = true then (if t205 = bt206.2 then ((ja_.f k bt210.1 bt214.1).bind fun t219 => (if t219 = true then (if bt210.2 = bt214.2 then ((xc_.f a1 a2 a3 a4).bind fun t220 => ((na_.f a1 a2 a3 a4).bind fun t221 => (if (t220 == t221) = true then ((xc_.f t196 t197 t198 t199).bind fun t222 => ((na_.f t196 t197 t198 t199).bind fun t223 => (if (t222 == t223) = true then ((ob_.f).bind fun t224 => (some t224)) else (some false)))) else (some false)))) else (some false)) else (some false))) else (some false)) else (some false)))))) = some r := H
 have A8 := ba_.mk A80
 clear A80
 replace H := Option.bind_eq_some_iff.mp H
 obtain ⟨⟨t206, t209⟩, A90, H⟩ := H
 replace H : ((ud_.f t196 t197 t198 t199).bind fun bt210 => ((pb_.f t196 t197 t198 t199).bind fun bt214 => ((ja_.f k t202 t206).bind fun t218 => (if t218 = true then (if t205 = t209 then ((ja_.f k bt210.1 bt214.1).bind fun t219 => (if t219 = true then (if bt210.2 = bt214.2 then ((xc_.f a1 a2 a3 a4).bind fun t220 => ((na_.f a1 a2 a3 a4).bind fun t221 => (if (t220 == t221) = true then ((xc_.f t196 t197 t198 t199).bind fun t222 => ((na_.f t196 t197 t198 t199).bind fun t223 => (if (t222 == t223) = true then ((ob_.f).bind fun t224 => (some t224)) else (some false)))) else (some false)))) else (some false)) else (some false))) else (some false)) else (some false))))) = some r := H
 have A9 := ba_.mk A90
 clear A90
 replace H := Option.bind_eq_some_iff.mp H
 obtain ⟨⟨t210, t213⟩, A100, H⟩ := H
 replace H : ((pb_.f t196 t197 t198 t199).bind fun bt214 => ((ja_.f k t202 t206).bind fun t218 => (if t218 = true then (if t205 = t209 then ((ja_.f k t210 bt214.1).bind fun t219 => (if t219 = true then (if t213 = bt214.2 then ((xc_.f a1 a2 a3 a4).bind fun t220 => ((na_.f a1 a2 a3 a4).bind fun t221 => (if (t220 == t221) = true then ((xc_.f t196 t197 t198 t199).bind fun t222 => ((na_.f t196 t197 t198 t199).bind fun t223 => (if (t222 == t223) = true then ((ob_.f).bind fun t224 => (some t224)) else (some false)))) else (some false)))) else (some false)) else (some false))) else (some false)) else (some false)))) = some r := H
 have A10 := ba_.mk A100
 clear A100
 replace H := Option.bind_eq_some_iff.mp H
 obtain ⟨⟨t214, t217⟩, A110, H⟩ := H
 replace H : ((ja_.f k t202 t206).bind fun t218 => (if t218 = true then (if t205 = t209 then ((ja_.f k t210 t214).bind fun t219 => (if t219 = true then (if t213 = t217 then ((xc_.f a1 a2 a3 a4).bind fun t220 => ((na_.f a1 a2 a3 a4).bind fun t221 => (if (t220 == t221) = true then ((xc_.f t196 t197 t198 t199).bind fun t222 => ((na_.f t196 t197 t198 t199).bind fun t223 => (if (t222 == t223) = true then ((ob_.f).bind fun t224 => (some t224)) else (some false)))) else (some false)))) else (some false)) else (some false))) else (some false)) else (some false))) = some r := H
 have A11 := ba_.mk A110
 clear A110
 replace H := Option.bind_eq_some_iff.mp H
 obtain ⟨t218, A120, H⟩ := H
 replace H : (if t218 = true then (if t205 = t209 then ((ja_.f k t210 t214).bind fun t219 => (if t219 = true then (if t213 = t217 then ((xc_.f a1 a2 a3 a4).bind fun t220 => ((na_.f a1 a2 a3 a4).bind fun t221 => (if (t220 == t221) = true then ((xc_.f t196 t197 t198 t199).bind fun t222 => ((na_.f t196 t197 t198 t199).bind fun t223 => (if (t222 == t223) = true then ((ob_.f).bind fun t224 => (some t224)) else (some false)))) else (some false)))) else (some false)) else (some false))) else (some false)) else (some false)) = some r := H
 have A12 := ba_.mk A120
 clear A120
 by_cases c13 : t218 = true
 ·subst c13
  have H1 : (if t205 = t209 then ((ja_.f k t210 t214).bind fun t219 => (if t219 = true then (if t213 = t217 then ((xc_.f a1 a2 a3 a4).bind fun t220 => ((na_.f a1 a2 a3 a4).bind fun t221 => (if (t220 == t221) = true then ((xc_.f t196 t197 t198 t199).bind fun t222 => ((na_.f t196 t197 t198 t199).bind fun t223 => (if (t222 == t223) = true then ((ob_.f).bind fun t224 => (some t224)) else (some false)))) else (some false)))) else (some false)) else (some false))) else (some false)) = some r := by rw [if_pos rfl] at H; exact H
  clear H
  have H := H1
  clear H1
  by_cases c14 : t205 = t209
  ·rw [if_pos c14] at H
   have c14b0 : (t205 == t209) = true := beq_iff_eq.mpr c14
   try have c14b9 := eq_true (beq_iff_eq.mp c14b0)
   have c14b1 : (t205 != t209) = false := bne_eq_false_iff_eq.mpr c14
   clear c14
   replace H := Option.bind_eq_some_iff.mp H
   obtain ⟨t219, A150, H⟩ := H
   replace H : (if t219 = true then (if t213 = t217 then ((xc_.f a1 a2 a3 a4).bind fun t220 => ((na_.f a1 a2 a3 a4).bind fun t221 => (if (t220 == t221) = true then ((xc_.f t196 t197 t198 t199).bind fun t222 => ((na_.f t196 t197 t198 t199).bind fun t223 => (if (t222 == t223) = true then ((ob_.f).bind fun t224 => (some t224)) else (some false)))) else (some false)))) else (some false)) else (some false)) = some r := H
   have A15 := ba_.mk A150
   clear A150
   by_cases c16 : t219 = true
   ·subst c16
    have H1 : (if t213 = t217 then ((xc_.f a1 a2 a3 a4).bind fun t220 => ((na_.f a1 a2 a3 a4).bind fun t221 => (if (t220 == t221) = true then ((xc_.f t196 t197 t198 t199).bind fun t222 => ((na_.f t196 t197 t198 t199).bind fun t223 => (if (t222 == t223) = true then ((ob_.f).bind fun t224 => (some t224)) else (some false)))) else (some false)))) else (some false)) = some r := by rw [if_pos rfl] at H; exact H
    clear H
    have H := H1
    clear H1
    by_cases c17 : t213 = t217
    ·rw [if_pos c17] at H
     have c17b0 : (t213 == t217) = true := beq_iff_eq.mpr c17
     try have c17b9 := eq_true (beq_iff_eq.mp c17b0)
     have c17b1 : (t213 != t217) = false := bne_eq_false_iff_eq.mpr c17
     clear c17
     replace H := Option.bind_eq_some_iff.mp H
     obtain ⟨t220, A180, H⟩ := H
     replace H : ((na_.f a1 a2 a3 a4).bind fun t221 => (if (t220 == t221) = true then ((xc_.f t196 t197 t198 t199).bind fun t222 => ((na_.f t196 t197 t198 t199).bind fun t223 => (if (t222 == t223) = true then ((ob_.f).bind fun t224 => (some t224)) else (some false)))) else (some false))) = some r := H
     have A18 := ba_.mk A180
     clear A180
     replace H := Option.bind_eq_some_iff.mp H
     obtain ⟨t221, A190, H⟩ := H
     replace H : (if (t220 == t221) = true then ((xc_.f t196 t197 t198 t199).bind fun t222 => ((na_.f t196 t197 t198 t199).bind fun t223 => (if (t222 == t223) = true then ((ob_.f).bind fun t224 => (some t224)) else (some false)))) else (some false)) = some r := H
     have A19 := ba_.mk A190
     clear A190
     by_cases c20 : (t220 == t221) = true
     ·rw [if_pos c20] at H
      have c20b0 : (t220 == t221) = true := c20
      try have c20b9 := eq_true (beq_iff_eq.mp c20b0)
      (try (have c20b1 : decide (t220 = t221) = true := by simpa using c20))
      (try (have c20b2 : (t220 == t221) = true := by simpa using c20))
      clear c20
      replace H := Option.bind_eq_some_iff.mp H
      obtain ⟨t222, A210, H⟩ := H
      replace H : ((na_.f t196 t197 t198 t199).bind fun t223 => (if (t222 == t223) = true then ((ob_.f).bind fun t224 => (some t224)) else (some false))) = some r := H
      have A21 := ba_.mk A210
      clear A210
      replace H := Option.bind_eq_some_iff.mp H
      obtain ⟨t223, A220, H⟩ := H
      replace H : (if (t222 == t223) = true then ((ob_.f).bind fun t224 => (some t224)) else (some false)) = some r := H
      have A22 := ba_.mk A220
      clear A220
      by_cases c23 : (t222 == t223) = true
      ·rw [if_pos c23] at H
       have c23b0 : (t222 == t223) = true := c23
       try have c23b9 := eq_true (beq_iff_eq.mp c23b0)
       (try (have c23b1 : decide (t222 = t223) = true := by simpa using c23))
       (try (have c23b2 : (t222 == t223) = true := by simpa using c23))
       clear c23
       replace H := Option.bind_eq_some_iff.mp H
       obtain ⟨t224, A240, H⟩ := H
       replace H : (some t224) = some r := H
       have A24 := ba_.mk A240
       clear A240
       obtain rfl := Option.some.inj H
       go_enter Tryd.func3, Tryd.ntmps3
       try go_wp2_with (first | ((with_reducible refine la_ (f := 4) rfl ?_); refine wb_ (some 23) rfl rfl Tryd.func4 (by kernel_rfl) rfl #[.slice A0 l0.length c0] rfl (by (try simp only [List.map_toArray, List.map_cons, List.map_nil]); first | done | rfl | (simp only [List.length_drop, List.length_take]; rfl)) ?_; (with_reducible refine (fd_.calls _ _ l0 t192 t193 w _ ?side1 ?side2 ?side3 A6.out).mono ?_); (case side1 => repeat (first | (with_reducible first | exact HB.out | apply da_ | apply aa_ | apply ca_) | exact HB.out)); (case side2 => exact HR0.out); (case side3 => exact HC0.out); rintro e w25 ⟨g194, rfl, hi, hb, hb2⟩; refine ⟨_, rfl, ?_⟩; have n0_ := ba_.mk (hb); have n1_ := ba_.mk (hi); clear HB; have HB := n0_; have HI194 := n1_; clear n0_ n1_; (try clear hb); (try clear hb2); (try clear hk); (try clear hi)) | ((with_reducible refine hc_ (N := 12) rfl ?_); refine ed_ ?hg (N := 12) ?hd (cs := #[.int .i64 0, .int .i64 0, .int .i64 0, .int .i64 0]) (t := 26) ?hr ?_; (case hd => rfl); (case hg => rfl); (case hr => first | (go_simp; done) | (go_simp; rfl)); intro gb195 hg w26 hbox hb; have n0_ := ba_.mk (ma_.below (by repeat (first | (with_reducible first | exact HI194.out | apply ma_.alloc | apply ma_.drewN | apply ma_.drew | apply ma_.od_) | exact HI194.out)) hb); have n1_ := ba_.mk (pa_ (by repeat (first | (with_reducible first | exact HB.out | apply da_ | apply aa_ | apply ca_ | refine ia_ ?_ (ma_.ge HI194.out)) | exact HB.out)) hb); have n2_ := ba_.mk (hbox); have n3_ := ba_.mk ((by rw [hg]; exact (wa_ (by repeat (first | (with_reducible first | exact HB.out | apply da_ | apply aa_ | apply ca_ | refine ia_ ?_ (ma_.ge HI194.out)) | exact HB.out))) : w.heap.size ≤ gb195)); have n4_ := ba_.mk ((by rw [hg]; exact (wa_ (by repeat (first | (with_reducible first | exact HB.out | apply da_ | apply aa_ | apply ca_ | refine ia_ ?_ (ma_.ge HI194.out)) | exact HB.out))) : w.heap.size ≤ gb195)); have n5_ := ba_.mk ((by rw [hg]; exact Nat.ne_of_lt (ma_.lt (show ma_ w _ g194 t192 t193 from by repeat (first | (with_reducible first | exact HI194.out | apply ma_.alloc | apply ma_.drewN | apply ma_.drew | apply ma_.od_) | exact HI194.out))) : g194 ≠ gb195)); have n6_ := ba_.mk ((by rw [hg]; exact Nat.ne_of_gt (ma_.lt (show ma_ w _ g194 t192 t193 from by repeat (first | (with_reducible first | exact HI194.out | apply ma_.alloc | apply ma_.drewN | apply ma_.drew | apply ma_.od_) | exact HI194.out))) : gb195 ≠ g194)); clear HI194; clear HB; have HI194 := n0_; have HB := n1_; have BK195 := n2_; have GW195 := n3_; have GE195 := n4_; have NB194_195 := n5_; have NB195_194 := n6_; clear n0_ n1_ n2_ n3_ n4_ n5_ n6_; clear hb hbox hg; have hnb27 := NB195_194.out; have hnc27 := NB194_195.out; have hcz28_0 : w26.cell? ⟨gb195, 0, none⟩ = some (.int .i64 0) := (ga_ BK195.out 0).trans rfl; have hcz28_1 : w26.cell? ⟨gb195, 1, none⟩ = some (.int .i64 0) := (ga_ BK195.out 1).trans rfl; have hcz28_2 : w26.cell? ⟨gb195, 2, none⟩ = some (.int .i64 0) := (ga_ BK195.out 2).trans rfl; have hcz28_3 : w26.cell? ⟨gb195, 3, none⟩ = some (.int .i64 0) := (ga_ BK195.out 3).trans rfl; have hfz28_0 := ha_ BK195.out 0; have hfz28_1 := ha_ BK195.out 1; have hfz28_2 := ha_ BK195.out 2; have hfz28_3 := ha_ BK195.out 3) | ((with_reducible refine la_ (f := 5) rfl ?_); refine wb_ (some 30) rfl rfl Tryd.func5 (by kernel_rfl) rfl #[.pointer (some ⟨g194, 0, none⟩), .int .i64 6] rfl (by (try simp only [List.map_toArray, List.map_cons, List.map_nil]); first | done | rfl | (simp only [List.length_drop, List.length_take]; rfl)) ?_; (with_reducible refine (gc_.calls g194 t192 t193 6 t196 t197 t198 t199 t200 w _ ?side1 ?side2 A7.out).mono ?_); (case side1 => repeat (first | (with_reducible first | exact HI194.out | apply ma_.alloc | apply ma_.drewN | apply ma_.drew | apply ma_.od_ | refine ma_.far ?_ NB194_195.out _) | exact HI194.out)); (case side2 => repeat (first | (with_reducible first | exact HB.out | apply da_ | apply aa_ | apply ca_ | refine ia_ ?_ (ma_.ge HI194.out) | refine ia_ ?_ GE195.out) | exact HB.out)); rintro e w29 ⟨rfl, hi, hb, hk⟩; refine ⟨_, rfl, ?_⟩; have n0_ := ba_.mk (ib_.blk hk (g' := gb195) (o := .cells #[.int .i64 a1, .int .i64 a2, .int .i64 a3, .int .i64 a4] 26 (0, 0)) (by (with_reducible repeat (first | refine ra_ ?_ _ | refine ab_ ?_ | refine qa_ ?_ _)); refine oc_ (cs := #[.int .i64 a1, .int .i64 a2, .int .i64 a3, .int .i64 0]) ?_ 3 _ rfl; (with_reducible repeat (first | refine ra_ ?_ _ | refine ab_ ?_ | refine qa_ ?_ _)); refine oc_ (cs := #[.int .i64 a1, .int .i64 a2, .int .i64 0, .int .i64 0]) ?_ 2 _ rfl; (with_reducible repeat (first | refine ra_ ?_ _ | refine ab_ ?_ | refine qa_ ?_ _)); refine oc_ (cs := #[.int .i64 a1, .int .i64 0, .int .i64 0, .int .i64 0]) ?_ 1 _ rfl; (with_reducible repeat (first | refine ra_ ?_ _ | refine ab_ ?_ | refine qa_ ?_ _)); refine oc_ (cs := #[.int .i64 0, .int .i64 0, .int .i64 0, .int .i64 0]) ?_ 0 _ rfl; (with_reducible repeat (first | refine ra_ ?_ _ | refine ab_ ?_ | refine qa_ ?_ _)); exact BK195.out) NB195_194.out (by simp)); have n1_ := ba_.mk (hb); have n2_ := ba_.mk (hi); clear BK195; clear HB; clear HI194; have BK195 := n0_; have HB := n1_; have HI194 := n2_; clear n0_ n1_ n2_; (try clear hb); (try clear hb2); (try clear hk); (try clear hi)) | ((with_reducible refine hc_ (N := 13) rfl ?_); refine ed_ ?hg (N := 13) ?hd (cs := #[.int .i64 0, .int .i64 0, .int .i64 0, .int .i64 0]) (t := 26) ?hr ?_; (case hd => rfl); (case hg => rfl); (case hr => first | (go_simp; done) | (go_simp; rfl)); intro gb201 hg w30 hbox hb; have n0_ := ba_.mk (ma_.below (by repeat (first | (with_reducible first | exact HI194.out | apply ma_.alloc | apply ma_.drewN | apply ma_.drew | apply ma_.od_ | refine ma_.far ?_ NB194_195.out _) | exact HI194.out)) hb); have n1_ := ba_.mk (zb_ (g := gb195) (o := .cells #[.int .i64 a1, .int .i64 a2, .int .i64 a3, .int .i64 a4] 26 (0, 0)) (by (with_reducible repeat (first | refine ra_ ?_ _ | refine ab_ ?_ | refine qa_ ?_ _)); exact BK195.out) hb); have n2_ := ba_.mk (pa_ (by repeat (first | (with_reducible first | exact HB.out | apply da_ | apply aa_ | apply ca_ | refine ia_ ?_ (ma_.ge HI194.out) | refine ia_ ?_ GE195.out) | exact HB.out)) hb); have n3_ := ba_.mk (hbox); have n4_ := ba_.mk ((by rw [hg]; exact (wa_ (by repeat (first | (with_reducible first | exact HB.out | apply da_ | apply aa_ | apply ca_ | refine ia_ ?_ (ma_.ge HI194.out) | refine ia_ ?_ GE195.out) | exact HB.out))) : w.heap.size ≤ gb201)); have n5_ := ba_.mk ((by rw [hg]; exact (wa_ (by repeat (first | (with_reducible first | exact HB.out | apply da_ | apply aa_ | apply ca_ | refine ia_ ?_ (ma_.ge HI194.out) | refine ia_ ?_ GE195.out) | exact HB.out))) : w.heap.size ≤ gb201)); have n6_ := ba_.mk ((by rw [hg]; exact Nat.ne_of_lt (kg_ (g := gb195) (o := .cells #[.int .i64 a1, .int .i64 a2, .int .i64 a3, .int .i64 a4] 26 (0, 0)) (by (with_reducible repeat (first | refine ra_ ?_ _ | refine ab_ ?_ | refine qa_ ?_ _)); exact BK195.out)) : gb195 ≠ gb201)); have n7_ := ba_.mk ((by rw [hg]; exact Nat.ne_of_gt (kg_ (g := gb195) (o := .cells #[.int .i64 a1, .int .i64 a2, .int .i64 a3, .int .i64 a4] 26 (0, 0)) (by (with_reducible repeat (first | refine ra_ ?_ _ | refine ab_ ?_ | refine qa_ ?_ _)); exact BK195.out)) : gb201 ≠ gb195)); have n8_ := ba_.mk ((by rw [hg]; exact Nat.ne_of_lt (ma_.lt (show ma_ w _ g194 t192 t200 from by repeat (first | (with_reducible first | exact HI194.out | apply ma_.alloc | apply ma_.drewN | apply ma_.drew | apply ma_.od_ | refine ma_.far ?_ NB194_195.out _) | exact HI194.out))) : g194 ≠ gb201)); have n9_ := ba_.mk ((by rw [hg]; exact Nat.ne_of_gt (ma_.lt (show ma_ w _ g194 t192 t200 from by repeat (first | (with_reducible first | exact HI194.out | apply ma_.alloc | apply ma_.drewN | apply ma_.drew | apply ma_.od_ | refine ma_.far ?_ NB194_195.out _) | exact HI194.out))) : gb201 ≠ g194)); clear HI194; clear BK195; clear HB; have HI194 := n0_; have BK195 := n1_; have HB := n2_; have BK201 := n3_; have GW201 := n4_; have GE201 := n5_; have NB195_201 := n6_; have NB201_195 := n7_; have NB194_201 := n8_; have NB201_194 := n9_; clear n0_ n1_ n2_ n3_ n4_ n5_ n6_ n7_ n8_ n9_; clear hb hbox hg; have hnb31 := NB201_195.out; have hnc31 := NB195_201.out; have hnb32 := NB201_194.out; have hnc32 := NB194_201.out; have hcz33_0 : w30.cell? ⟨gb201, 0, none⟩ = some (.int .i64 0) := (ga_ BK201.out 0).trans rfl; have hcz33_1 : w30.cell? ⟨gb201, 1, none⟩ = some (.int .i64 0) := (ga_ BK201.out 1).trans rfl; have hcz33_2 : w30.cell? ⟨gb201, 2, none⟩ = some (.int .i64 0) := (ga_ BK201.out 2).trans rfl; have hcz33_3 : w30.cell? ⟨gb201, 3, none⟩ = some (.int .i64 0) := (ga_ BK201.out 3).trans rfl; have hfz33_0 := ha_ BK201.out 0; have hfz33_1 := ha_ BK201.out 1; have hfz33_2 := ha_ BK201.out 2; have hfz33_3 := ha_ BK201.out 3; have hcz34_0 : w30.cell? ⟨gb195, 0, none⟩ = some (.int .i64 a1) := (ga_ BK195.out 0).trans rfl; have hcz34_1 : w30.cell? ⟨gb195, 1, none⟩ = some (.int .i64 a2) := (ga_ BK195.out 1).trans rfl; have hcz34_2 : w30.cell? ⟨gb195, 2, none⟩ = some (.int .i64 a3) := (ga_ BK195.out 2).trans rfl; have hcz34_3 : w30.cell? ⟨gb195, 3, none⟩ = some (.int .i64 a4) := (ga_ BK195.out 3).trans rfl; have hfz34_0 := ha_ BK195.out 0; have hfz34_1 := ha_ BK195.out 1; have hfz34_2 := ha_ BK195.out 2; have hfz34_3 := ha_ BK195.out 3) | ((with_reducible refine la_ (f := 6) rfl ?_); refine wb_ (some 33) rfl rfl Tryd.func6 (by kernel_rfl) rfl #[.agg #[.int .i64 a1, .int .i64 a2, .int .i64 a3, .int .i64 a4]] rfl (by (try simp only [List.map_toArray, List.map_cons, List.map_nil]); first | done | rfl | (simp only [List.length_drop, List.length_take]; rfl)) ?_; (with_reducible refine (ud_.calls a1 a2 a3 a4 t202 t205 _ A8.out).mono ?_); rintro e w35 ⟨v203, rfl, ho0, hb⟩; refine ⟨_, rfl, ?_⟩; have n0_ := ba_.mk (Kd.wc_ ho0 (wa_ (by repeat (first | (with_reducible first | exact HB.out | apply da_ | apply aa_ | apply ca_ | refine ia_ ?_ (ma_.ge HI194.out) | refine ia_ ?_ GE195.out | refine ia_ ?_ GE201.out) | exact HB.out)))); have n1_ := ba_.mk (ma_.below (show ma_ w ((((w30.setCell ⟨gb201, 0, none⟩ (.int .i64 t196)).setCell ⟨gb201, 1, none⟩ (.int .i64 t197)).setCell ⟨gb201, 2, none⟩ (.int .i64 t198)).setCell ⟨gb201, 3, none⟩ (.int .i64 t199)) g194 t192 t200 from by repeat (first | (with_reducible first | exact HI194.out | apply ma_.alloc | apply ma_.drewN | apply ma_.drew | apply ma_.od_ | refine ma_.far ?_ NB194_195.out _ | refine ma_.far ?_ NB194_201.out _) | exact HI194.out)) hb); have n2_ := ba_.mk (zb_ (g := gb195) (o := .cells #[.int .i64 a1, .int .i64 a2, .int .i64 a3, .int .i64 a4] 26 (0, 0)) (by (with_reducible repeat (first | refine ra_ ?_ _ | refine ab_ ?_ | refine qa_ ?_ _)); refine sf_ ?_ NB195_201.out _; (with_reducible repeat (first | refine ra_ ?_ _ | refine ab_ ?_ | refine qa_ ?_ _)); refine sf_ ?_ NB195_201.out _; (with_reducible repeat (first | refine ra_ ?_ _ | refine ab_ ?_ | refine qa_ ?_ _)); refine sf_ ?_ NB195_201.out _; (with_reducible repeat (first | refine ra_ ?_ _ | refine ab_ ?_ | refine qa_ ?_ _)); refine sf_ ?_ NB195_201.out _; (with_reducible repeat (first | refine ra_ ?_ _ | refine ab_ ?_ | refine qa_ ?_ _)); exact BK195.out) hb); have n3_ := ba_.mk (zb_ (g := gb201) (o := .cells #[.int .i64 t196, .int .i64 t197, .int .i64 t198, .int .i64 t199] 26 (0, 0)) (by (with_reducible repeat (first | refine ra_ ?_ _ | refine ab_ ?_ | refine qa_ ?_ _)); refine oc_ (cs := #[.int .i64 t196, .int .i64 t197, .int .i64 t198, .int .i64 0]) ?_ 3 _ rfl; (with_reducible repeat (first | refine ra_ ?_ _ | refine ab_ ?_ | refine qa_ ?_ _)); refine oc_ (cs := #[.int .i64 t196, .int .i64 t197, .int .i64 0, .int .i64 0]) ?_ 2 _ rfl; (with_reducible repeat (first | refine ra_ ?_ _ | refine ab_ ?_ | refine qa_ ?_ _)); refine oc_ (cs := #[.int .i64 t196, .int .i64 0, .int .i64 0, .int .i64 0]) ?_ 1 _ rfl; (with_reducible repeat (first | refine ra_ ?_ _ | refine ab_ ?_ | refine qa_ ?_ _)); refine oc_ (cs := #[.int .i64 0, .int .i64 0, .int .i64 0, .int .i64 0]) ?_ 0 _ rfl; (with_reducible repeat (first | refine ra_ ?_ _ | refine ab_ ?_ | refine qa_ ?_ _)); exact BK201.out) hb); have n4_ := ba_.mk (pa_ (by repeat (first | (with_reducible first | exact HB.out | apply da_ | apply aa_ | apply ca_ | refine ia_ ?_ (ma_.ge HI194.out) | refine ia_ ?_ GE195.out | refine ia_ ?_ GE201.out) | exact HB.out)) hb); clear HI194; clear BK195; clear BK201; clear HB; have HO204 := n0_; have HI194 := n1_; have BK195 := n2_; have BK201 := n3_; have HB := n4_; clear n0_ n1_ n2_ n3_ n4_; (try clear hb); (try clear hb2); (try clear hk); (try clear hi); (try clear ho0); have hcz36_0 : w35.cell? ⟨gb195, 0, none⟩ = some (.int .i64 a1) := (ga_ BK195.out 0).trans rfl; have hcz36_1 : w35.cell? ⟨gb195, 1, none⟩ = some (.int .i64 a2) := (ga_ BK195.out 1).trans rfl; have hcz36_2 : w35.cell? ⟨gb195, 2, none⟩ = some (.int .i64 a3) := (ga_ BK195.out 2).trans rfl; have hcz36_3 : w35.cell? ⟨gb195, 3, none⟩ = some (.int .i64 a4) := (ga_ BK195.out 3).trans rfl; have hfz36_0 := ha_ BK195.out 0; have hfz36_1 := ha_ BK195.out 1; have hfz36_2 := ha_ BK195.out 2; have hfz36_3 := ha_ BK195.out 3) | ((with_reducible refine la_ (f := 7) rfl ?_); refine wb_ (some 38) rfl rfl Tryd.func7 (by kernel_rfl) rfl #[.agg #[.int .i64 a1, .int .i64 a2, .int .i64 a3, .int .i64 a4]] rfl (by (try simp only [List.map_toArray, List.map_cons, List.map_nil]); first | done | rfl | (simp only [List.length_drop, List.length_take]; rfl)) ?_; (with_reducible refine (pb_.calls a1 a2 a3 a4 t206 t209 _ A9.out).mono ?_); rintro e w37 ⟨v207, rfl, ho0, hb⟩; refine ⟨_, rfl, ?_⟩; have n0_ := ba_.mk (Kd.gd_ (by (with_reducible repeat (first | apply Kd.ta_ | apply Kd.ua_ | apply Kd.db_)); exact HO204.out) (Kd.be_ ho0) hb); have n1_ := ba_.mk (Kd.wc_ (Kd.yd_ ho0 (Kd.R_lt (by (with_reducible repeat (first | apply Kd.ta_ | apply Kd.ua_ | apply Kd.db_)); exact HO204.out))) (wa_ (by repeat (first | (with_reducible first | exact HB.out | apply da_ | apply aa_ | apply ca_ | refine ia_ ?_ (ma_.ge HI194.out) | refine ia_ ?_ GE195.out | refine ia_ ?_ GE201.out) | exact HB.out)))); have n2_ := ba_.mk (ma_.below (by repeat (first | (with_reducible first | exact HI194.out | apply ma_.alloc | apply ma_.drewN | apply ma_.drew | apply ma_.od_ | refine ma_.far ?_ NB194_195.out _ | refine ma_.far ?_ NB194_201.out _) | exact HI194.out)) hb); have n3_ := ba_.mk (zb_ (g := gb195) (o := .cells #[.int .i64 a1, .int .i64 a2, .int .i64 a3, .int .i64 a4] 26 (0, 0)) (by (with_reducible repeat (first | refine ra_ ?_ _ | refine ab_ ?_ | refine qa_ ?_ _)); exact BK195.out) hb); have n4_ := ba_.mk (zb_ (g := gb201) (o := .cells #[.int .i64 t196, .int .i64 t197, .int .i64 t198, .int .i64 t199] 26 (0, 0)) (by (with_reducible repeat (first | refine ra_ ?_ _ | refine ab_ ?_ | refine qa_ ?_ _)); exact BK201.out) hb); have n5_ := ba_.mk (pa_ (by repeat (first | (with_reducible first | exact HB.out | apply da_ | apply aa_ | apply ca_ | refine ia_ ?_ (ma_.ge HI194.out) | refine ia_ ?_ GE195.out | refine ia_ ?_ GE201.out) | exact HB.out)) hb); clear HO204; clear HI194; clear BK195; clear BK201; clear HB; have HO204 := n0_; have HO208 := n1_; have HI194 := n2_; have BK195 := n3_; have BK201 := n4_; have HB := n5_; clear n0_ n1_ n2_ n3_ n4_ n5_; (try clear hb); (try clear hb2); (try clear hk); (try clear hi); (try clear ho0); have hcz38_0 : w37.cell? ⟨gb201, 0, none⟩ = some (.int .i64 t196) := (ga_ BK201.out 0).trans rfl; have hcz38_1 : w37.cell? ⟨gb201, 1, none⟩ = some (.int .i64 t197) := (ga_ BK201.out 1).trans rfl; have hcz38_2 : w37.cell? ⟨gb201, 2, none⟩ = some (.int .i64 t198) := (ga_ BK201.out 2).trans rfl; have hcz38_3 : w37.cell? ⟨gb201, 3, none⟩ = some (.int .i64 t199) := (ga_ BK201.out 3).trans rfl; have hfz38_0 := ha_ BK201.out 0; have hfz38_1 := ha_ BK201.out 1; have hfz38_2 := ha_ BK201.out 2; have hfz38_3 := ha_ BK201.out 3) | ((with_reducible refine la_ (f := 6) rfl ?_); refine wb_ (some 43) rfl rfl Tryd.func6 (by kernel_rfl) rfl #[.agg #[.int .i64 t196, .int .i64 t197, .int .i64 t198, .int .i64 t199]] rfl (by (try simp only [List.map_toArray, List.map_cons, List.map_nil]); first | done | rfl | (simp only [List.length_drop, List.length_take]; rfl)) ?_; (with_reducible refine (ud_.calls t196 t197 t198 t199 t210 t213 _ A10.out).mono ?_); rintro e w39 ⟨v211, rfl, ho0, hb⟩; refine ⟨_, rfl, ?_⟩; have n0_ := ba_.mk (Kd.gd_ (by (with_reducible repeat (first | apply Kd.ta_ | apply Kd.ua_ | apply Kd.db_)); exact HO204.out) (Kd.be_ ho0) hb); have n1_ := ba_.mk (Kd.gd_ (by (with_reducible repeat (first | apply Kd.ta_ | apply Kd.ua_ | apply Kd.db_)); exact HO208.out) (Kd.be_ ho0) hb); have n2_ := ba_.mk (Kd.wc_ (Kd.yd_ (Kd.yd_ ho0 (Kd.R_lt (by (with_reducible repeat (first | apply Kd.ta_ | apply Kd.ua_ | apply Kd.db_)); exact HO204.out))) (Kd.R_lt (by (with_reducible repeat (first | apply Kd.ta_ | apply Kd.ua_ | apply Kd.db_)); exact HO208.out))) (wa_ (by repeat (first | (with_reducible first | exact HB.out | apply da_ | apply aa_ | apply ca_ | refine ia_ ?_ (ma_.ge HI194.out) | refine ia_ ?_ GE195.out | refine ia_ ?_ GE201.out) | exact HB.out)))); have n3_ := ba_.mk (ma_.below (by repeat (first | (with_reducible first | exact HI194.out | apply ma_.alloc | apply ma_.drewN | apply ma_.drew | apply ma_.od_ | refine ma_.far ?_ NB194_195.out _ | refine ma_.far ?_ NB194_201.out _) | exact HI194.out)) hb); have n4_ := ba_.mk (zb_ (g := gb195) (o := .cells #[.int .i64 a1, .int .i64 a2, .int .i64 a3, .int .i64 a4] 26 (0, 0)) (by (with_reducible repeat (first | refine ra_ ?_ _ | refine ab_ ?_ | refine qa_ ?_ _)); exact BK195.out) hb); have n5_ := ba_.mk (zb_ (g := gb201) (o := .cells #[.int .i64 t196, .int .i64 t197, .int .i64 t198, .int .i64 t199] 26 (0, 0)) (by (with_reducible repeat (first | refine ra_ ?_ _ | refine ab_ ?_ | refine qa_ ?_ _)); exact BK201.out) hb); have n6_ := ba_.mk (pa_ (by repeat (first | (with_reducible first | exact HB.out | apply da_ | apply aa_ | apply ca_ | refine ia_ ?_ (ma_.ge HI194.out) | refine ia_ ?_ GE195.out | refine ia_ ?_ GE201.out) | exact HB.out)) hb); clear HO204; clear HO208; clear HI194; clear BK195; clear BK201; clear HB; have HO204 := n0_; have HO208 := n1_; have HO212 := n2_; have HI194 := n3_; have BK195 := n4_; have BK201 := n5_; have HB := n6_; clear n0_ n1_ n2_ n3_ n4_ n5_ n6_; (try clear hb); (try clear hb2); (try clear hk); (try clear hi); (try clear ho0); have hcz40_0 : w39.cell? ⟨gb201, 0, none⟩ = some (.int .i64 t196) := (ga_ BK201.out 0).trans rfl; have hcz40_1 : w39.cell? ⟨gb201, 1, none⟩ = some (.int .i64 t197) := (ga_ BK201.out 1).trans rfl; have hcz40_2 : w39.cell? ⟨gb201, 2, none⟩ = some (.int .i64 t198) := (ga_ BK201.out 2).trans rfl; have hcz40_3 : w39.cell? ⟨gb201, 3, none⟩ = some (.int .i64 t199) := (ga_ BK201.out 3).trans rfl; have hfz40_0 := ha_ BK201.out 0; have hfz40_1 := ha_ BK201.out 1; have hfz40_2 := ha_ BK201.out 2; have hfz40_3 := ha_ BK201.out 3) | ((with_reducible refine la_ (f := 7) rfl ?_); refine wb_ (some 48) rfl rfl Tryd.func7 (by kernel_rfl) rfl #[.agg #[.int .i64 t196, .int .i64 t197, .int .i64 t198, .int .i64 t199]] rfl (by (try simp only [List.map_toArray, List.map_cons, List.map_nil]); first | done | rfl | (simp only [List.length_drop, List.length_take]; rfl)) ?_; (with_reducible refine (pb_.calls t196 t197 t198 t199 t214 t217 _ A11.out).mono ?_); rintro e w41 ⟨v215, rfl, ho0, hb⟩; refine ⟨_, rfl, ?_⟩; have n0_ := ba_.mk (Kd.gd_ (by (with_reducible repeat (first | apply Kd.ta_ | apply Kd.ua_ | apply Kd.db_)); exact HO204.out) (Kd.be_ ho0) hb); have n1_ := ba_.mk (Kd.gd_ (by (with_reducible repeat (first | apply Kd.ta_ | apply Kd.ua_ | apply Kd.db_)); exact HO208.out) (Kd.be_ ho0) hb); have n2_ := ba_.mk (Kd.gd_ (by (with_reducible repeat (first | apply Kd.ta_ | apply Kd.ua_ | apply Kd.db_)); exact HO212.out) (Kd.be_ ho0) hb); have n3_ := ba_.mk (Kd.wc_ (Kd.yd_ (Kd.yd_ (Kd.yd_ ho0 (Kd.R_lt (by (with_reducible repeat (first | apply Kd.ta_ | apply Kd.ua_ | apply Kd.db_)); exact HO204.out))) (Kd.R_lt (by (with_reducible repeat (first | apply Kd.ta_ | apply Kd.ua_ | apply Kd.db_)); exact HO208.out))) (Kd.R_lt (by (with_reducible repeat (first | apply Kd.ta_ | apply Kd.ua_ | apply Kd.db_)); exact HO212.out))) (wa_ (by repeat (first | (with_reducible first | exact HB.out | apply da_ | apply aa_ | apply ca_ | refine ia_ ?_ (ma_.ge HI194.out) | refine ia_ ?_ GE195.out | refine ia_ ?_ GE201.out) | exact HB.out)))); have n4_ := ba_.mk (ma_.below (by repeat (first | (with_reducible first | exact HI194.out | apply ma_.alloc | apply ma_.drewN | apply ma_.drew | apply ma_.od_ | refine ma_.far ?_ NB194_195.out _ | refine ma_.far ?_ NB194_201.out _) | exact HI194.out)) hb); have n5_ := ba_.mk (zb_ (g := gb195) (o := .cells #[.int .i64 a1, .int .i64 a2, .int .i64 a3, .int .i64 a4] 26 (0, 0)) (by (with_reducible repeat (first | refine ra_ ?_ _ | refine ab_ ?_ | refine qa_ ?_ _)); exact BK195.out) hb); have n6_ := ba_.mk (zb_ (g := gb201) (o := .cells #[.int .i64 t196, .int .i64 t197, .int .i64 t198, .int .i64 t199] 26 (0, 0)) (by (with_reducible repeat (first | refine ra_ ?_ _ | refine ab_ ?_ | refine qa_ ?_ _)); exact BK201.out) hb); have n7_ := ba_.mk (pa_ (by repeat (first | (with_reducible first | exact HB.out | apply da_ | apply aa_ | apply ca_ | refine ia_ ?_ (ma_.ge HI194.out) | refine ia_ ?_ GE195.out | refine ia_ ?_ GE201.out) | exact HB.out)) hb); clear HO204; clear HO208; clear HO212; clear HI194; clear BK195; clear BK201; clear HB; have HO204 := n0_; have HO208 := n1_; have HO212 := n2_; have HO216 := n3_; have HI194 := n4_; have BK195 := n5_; have BK201 := n6_; have HB := n7_; clear n0_ n1_ n2_ n3_ n4_ n5_ n6_ n7_; (try clear hb); (try clear hb2); (try clear hk); (try clear hi); (try clear ho0)))
       have n0_ := ba_.mk (Kd.db_ HO204.out)
       have n1_ := ba_.mk (Kd.db_ HO208.out)
       have n2_ := ba_.mk (Kd.db_ HO212.out)
       have n3_ := ba_.mk (Kd.db_ HO216.out)
       have n4_ := ba_.mk (ab_ BK195.out)
       have n5_ := ba_.mk (ab_ BK201.out)
       have n6_ := ba_.mk (ma_.drew HI194.out)
       have n7_ := ba_.mk (ca_ HB.out)
       clear HO204
       clear HO208
       clear HO212
       clear HO216
       clear BK195
       clear BK201
       clear HI194
       clear HB
       have HO204 := n0_
       have HO208 := n1_
       have HO212 := n2_
       have HO216 := n3_
       have BK195 := n4_
       have BK201 := n5_
       have HI194 := n6_
       have HB := n7_
       clear n0_ n1_ n2_ n3_ n4_ n5_ n6_ n7_
       obtain ⟨Ao43, co43, eo43⟩ := Kd.nc_ HO204.out
       (first | subst eo43 | (injection eo43 with f1_ f2_ f3_; have f4_ := f1_.symm; have f5_ := f3_.symm; clear f1_ f2_ f3_; subst f4_; subst f5_))
       obtain ⟨Ao44, co44, eo44⟩ := Kd.nc_ HO208.out
       (first | subst eo44 | (injection eo44 with f1_ f2_ f3_; have f4_ := f1_.symm; have f5_ := f3_.symm; clear f1_ f2_ f3_; subst f4_; subst f5_))
       refine qf_ (n := 36) (S := fun w' => w'.cell? ⟨gb195, 0, none⟩ = some (.int .i64 a1) ∧ w'.cell? ⟨gb195, 1, none⟩ = some (.int .i64 a2) ∧ w'.cell? ⟨gb195, 2, none⟩ = some (.int .i64 a3) ∧ w'.cell? ⟨gb195, 3, none⟩ = some (.int .i64 a4) ∧ w'.cell? ⟨gb201, 0, none⟩ = some (.int .i64 t196) ∧ w'.cell? ⟨gb201, 1, none⟩ = some (.int .i64 t197) ∧ w'.cell? ⟨gb201, 2, none⟩ = some (.int .i64 t198) ∧ w'.cell? ⟨gb201, 3, none⟩ = some (.int .i64 t199)) (ds := []) #[false, false, false, false, false, false, false, false, false, false, false, false, false, false, false, false, false, false, false, false, false, false, false, false, false, false, false, false, false, false, false, false, false, false, false, false] (by kernel_rfl) rfl rfl ⟨(ga_ BK195.out 0).trans rfl, (ga_ BK195.out 1).trans rfl, (ga_ BK195.out 2).trans rfl, (ga_ BK195.out 3).trans rfl, (ga_ BK201.out 0).trans rfl, (ga_ BK201.out 1).trans rfl, (ga_ BK201.out 2).trans rfl, (ga_ BK201.out 3).trans rfl⟩ (fun hHeld => ?_); refine xe_ za_.tab8 za_.zm_ (fun HT_ HW_ => ?_)
       generalize w41.drew = w42 at HO204 HO208 HO212 HO216 BK195 BK201 HI194 HB hHeld ⊢
       refine tb_ (i := 0) (N := some 51) (v := ?_) (a' := ?_) #[true, false, false, false, false, false, false, false, false, false, false, false, false, false, false, false, false, false, false, false, false, false, false, false, false, false, false, false, false, false, false, false, false, false, false, false] rfl rfl (vb_ HT_.out (by kernel_rfl)) (fun _ _ _ h => h) (Or.inl ⟨by rfl, ?_⟩) ?_ ?_
       rotate_left
       ·intro w'
        go_simp
        with_reducible rfl
       rotate_left
       ·simp only [Act.put, List.setIfInBounds_toArray, List.set_cons_zero, List.set_cons_succ, fb_, hb_]
        rfl
       refine tb_ (i := 1) (N := some 52) (v := ?_) (a' := ?_) #[true, true, false, false, false, false, false, false, false, false, false, false, false, false, false, false, false, false, false, false, false, false, false, false, false, false, false, false, false, false, false, false, false, false, false, false] rfl rfl (vb_ HT_.out (by kernel_rfl)) (fun _ _ _ h => h) (Or.inl ⟨by rfl, ?_⟩) ?_ ?_
       rotate_left
       ·intro w'
        go_simp
        with_reducible rfl
       rotate_left
       ·simp only [Act.put, List.setIfInBounds_toArray, List.set_cons_zero, List.set_cons_succ, fb_, hb_]
        rfl
       refine one_ (i := 2) (N := some 53) #[true, true, true, false, false, false, false, false, false, false, false, false, false, false, false, false, false, false, false, false, false, false, false, false, false, false, false, false, false, false, false, false, false, false, false, false] rfl rfl (ge_ HT_.out (by kernel_rfl)) (by decide) (fun K hK => ?_)
       refine vg_ Tryd.func8 (by kernel_rfl) rfl #[.slice Ao43 t202.length co43, .slice Ao44 t206.length co44] (by rfl) rfl rfl (by (try simp only [List.map_toArray, List.map_cons, List.map_nil]); first | done | rfl | (simp only [List.length_drop, List.length_take]; rfl)) ?_
       with_reducible refine (ja_.calls k _ _ t202 _ _ t206 true _ ?side1 ?side2 ?side3 ?side4 A12.out).mono ?_
       (case side1 => repeat (first | exact (Kd.lb_ HO204.out).2.2 | (with_reducible refine Kd.zc_ ?_ _) | (with_reducible refine Kd.ad_ ?_ _) | (with_reducible refine Kd.md_ ?_)))
       (case side2 => exact (Kd.lb_ HO204.out).2.1)
       (case side3 => repeat (first | exact (Kd.lb_ HO208.out).2.2 | (with_reducible refine Kd.zc_ ?_ _) | (with_reducible refine Kd.ad_ ?_ _) | (with_reducible refine Kd.md_ ?_)))
       (case side4 => exact (Kd.lb_ HO208.out).2.1)
       rintro e w' ⟨rfl, ⟨nd, rfl⟩⟩
       refine ⟨_, rfl, ?_⟩
       obtain ⟨Ao45, co45, eo45⟩ := Kd.nc_ HO212.out
       (first | subst eo45 | (injection eo45 with f1_ f2_ f3_; have f4_ := f1_.symm; have f5_ := f3_.symm; clear f1_ f2_ f3_; subst f4_; subst f5_))
       obtain ⟨Ao46, co46, eo46⟩ := Kd.nc_ HO216.out
       (first | subst eo46 | (injection eo46 with f1_ f2_ f3_; have f4_ := f1_.symm; have f5_ := f3_.symm; clear f1_ f2_ f3_; subst f4_; subst f5_))
       refine hK.out _ _ ⟨(ga_ BK195.out 0).trans rfl, (ga_ BK195.out 1).trans rfl, (ga_ BK195.out 2).trans rfl, (ga_ BK195.out 3).trans rfl, (ga_ BK201.out 0).trans rfl, (ga_ BK201.out 1).trans rfl, (ga_ BK201.out 2).trans rfl, (ga_ BK201.out 3).trans rfl⟩ (fun hHeld => ?_)
       clear hK K
       refine pf_ (a' := ?_) ?_ ?_
       rotate_left
       ·show Act.put _ (some 53) _ = _
        simp only [Act.put, List.setIfInBounds_toArray, List.set_cons_zero, List.set_cons_succ, fb_, hb_]
        rfl
       refine tb_ (i := 3) (N := some 54) (v := ?_) (a' := ?_) #[true, true, true, true, false, false, false, false, false, false, false, false, false, false, false, false, false, false, false, false, false, false, false, false, false, false, false, false, false, false, false, false, false, false, false, false] rfl rfl (vb_ HT_.out (by kernel_rfl)) (fun _ _ _ h => h) (Or.inl ⟨by rfl, ?_⟩) ?_ ?_
       rotate_left
       ·intro w'
        go_simp
        with_reducible rfl
       rotate_left
       ·simp only [Act.put, List.setIfInBounds_toArray, List.set_cons_zero, List.set_cons_succ, fb_, hb_]
        rfl
       refine tb_ (i := 4) (N := some 55) (v := ?_) (a' := ?_) #[true, true, true, true, true, false, false, false, false, false, false, false, false, false, false, false, false, false, false, false, false, false, false, false, false, false, false, false, false, false, false, false, false, false, false, false] rfl rfl (vb_ HT_.out (by kernel_rfl)) (fun _ _ _ h => h) (Or.inl ⟨by rfl, ?_⟩) ?_ ?_
       rotate_left
       ·intro w'
        go_simp
        with_reducible rfl
       rotate_left
       ·simp only [Act.put, List.setIfInBounds_toArray, List.set_cons_zero, List.set_cons_succ, fb_, hb_]
        rfl
       refine tb_ (i := 5) (N := some 56) (v := ?_) (a' := ?_) #[true, true, true, true, true, true, false, false, false, false, false, false, false, false, false, false, false, false, false, false, false, false, false, false, false, false, false, false, false, false, false, false, false, false, false, false] rfl rfl (vb_ HT_.out (by kernel_rfl)) (fun _ _ _ h => h) (Or.inl ⟨by rfl, ?_⟩) ?_ ?_
       rotate_left
       ·intro w'
        go_simp
        with_reducible rfl
       rotate_left
       ·simp only [Act.put, List.setIfInBounds_toArray, List.set_cons_zero, List.set_cons_succ, fb_, hb_]
        rfl
       refine tb_ (i := 6) (N := some 57) (v := ?_) (a' := ?_) #[true, true, true, true, true, true, true, false, false, false, false, false, false, false, false, false, false, false, false, false, false, false, false, false, false, false, false, false, false, false, false, false, false, false, false, false] rfl rfl (vb_ HT_.out (by kernel_rfl)) (fun _ _ _ h => h) (Or.inl ⟨by rfl, ?_⟩) ?_ ?_
       rotate_left
       ·intro w'
        go_simp
        with_reducible rfl
       rotate_left
       ·simp only [Act.put, List.setIfInBounds_toArray, List.set_cons_zero, List.set_cons_succ, fb_, hb_]
        rfl
       refine tb_ (i := 7) (N := some 58) (v := ?_) (a' := ?_) #[true, true, true, true, true, true, true, true, false, false, false, false, false, false, false, false, false, false, false, false, false, false, false, false, false, false, false, false, false, false, false, false, false, false, false, false] rfl rfl (vb_ HT_.out (by kernel_rfl)) (fun _ _ _ h => h) (Or.inl ⟨by rfl, ?_⟩) ?_ ?_
       rotate_left
       ·intro w'
        go_simp
        with_reducible rfl
       rotate_left
       ·simp only [Act.put, List.setIfInBounds_toArray, List.set_cons_zero, List.set_cons_succ, fb_, hb_]
        rfl
       refine tb_ (i := 8) (N := some 59) (v := ?_) (a' := ?_) #[true, true, true, true, true, true, true, true, true, false, false, false, false, false, false, false, false, false, false, false, false, false, false, false, false, false, false, false, false, false, false, false, false, false, false, false] rfl rfl (vb_ HT_.out (by kernel_rfl)) (fun _ _ _ h => h) (Or.inl ⟨by rfl, ?_⟩) ?_ ?_
       rotate_left
       ·intro w'
        go_simp
        with_reducible rfl
       rotate_left
       ·simp only [Act.put, List.setIfInBounds_toArray, List.set_cons_zero, List.set_cons_succ, fb_, hb_]
        rfl
       refine tb_ (i := 9) (N := some 60) (v := ?_) (a' := ?_) #[true, true, true, true, true, true, true, true, true, true, false, false, false, false, false, false, false, false, false, false, false, false, false, false, false, false, false, false, false, false, false, false, false, false, false, false] rfl rfl (vb_ HT_.out (by kernel_rfl)) (fun _ _ _ h => h) (Or.inl ⟨by rfl, ?_⟩) ?_ ?_
       rotate_left
       ·intro w'
        go_simp
        with_reducible rfl
       rotate_left
       ·simp only [Act.put, List.setIfInBounds_toArray, List.set_cons_zero, List.set_cons_succ, fb_, hb_]
        rfl
       refine tb_ (i := 10) (N := some 61) (v := ?_) (a' := ?_) #[true, true, true, true, true, true, true, true, true, true, true, false, false, false, false, false, false, false, false, false, false, false, false, false, false, false, false, false, false, false, false, false, false, false, false, false] rfl rfl (vb_ HT_.out (by kernel_rfl)) (fun _ _ _ h => h) (Or.inl ⟨by rfl, ?_⟩) ?_ ?_
       rotate_left
       ·intro w'
        go_simp
        with_reducible rfl
       rotate_left
       ·simp only [Act.put, List.setIfInBounds_toArray, List.set_cons_zero, List.set_cons_succ, fb_, hb_]
        rfl
       refine one_ (i := 11) (N := some 62) #[true, true, true, true, true, true, true, true, true, true, true, true, false, false, false, false, false, false, false, false, false, false, false, false, false, false, false, false, false, false, false, false, false, false, false, false] rfl rfl (ge_ HT_.out (by kernel_rfl)) (by decide) (fun K hK => ?_)
       refine vg_ Tryd.func8 (by kernel_rfl) rfl #[.slice Ao45 t210.length co45, .slice Ao46 t214.length co46] (by rfl) rfl rfl (by (try simp only [List.map_toArray, List.map_cons, List.map_nil]); first | done | rfl | (simp only [List.length_drop, List.length_take]; rfl)) ?_
       with_reducible refine (ja_.calls k _ _ t210 _ _ t214 true _ ?side1 ?side2 ?side3 ?side4 A15.out).mono ?_
       (case side1 => repeat (first | exact (Kd.lb_ HO212.out).2.2 | (with_reducible refine Kd.zc_ ?_ _) | (with_reducible refine Kd.ad_ ?_ _) | (with_reducible refine Kd.md_ ?_)))
       (case side2 => exact (Kd.lb_ HO212.out).2.1)
       (case side3 => repeat (first | exact (Kd.lb_ HO216.out).2.2 | (with_reducible refine Kd.zc_ ?_ _) | (with_reducible refine Kd.ad_ ?_ _) | (with_reducible refine Kd.md_ ?_)))
       (case side4 => exact (Kd.lb_ HO216.out).2.1)
       rintro e w' ⟨rfl, ⟨nd, rfl⟩⟩
       refine ⟨_, rfl, ?_⟩
       refine hK.out _ _ ⟨(ga_ BK195.out 0).trans rfl, (ga_ BK195.out 1).trans rfl, (ga_ BK195.out 2).trans rfl, (ga_ BK195.out 3).trans rfl, (ga_ BK201.out 0).trans rfl, (ga_ BK201.out 1).trans rfl, (ga_ BK201.out 2).trans rfl, (ga_ BK201.out 3).trans rfl⟩ (fun hHeld => ?_)
       clear hK K
       refine pf_ (a' := ?_) ?_ ?_
       rotate_left
       ·show Act.put _ (some 62) _ = _
        simp only [Act.put, List.setIfInBounds_toArray, List.set_cons_zero, List.set_cons_succ, fb_, hb_]
        rfl
       refine tb_ (i := 12) (N := some 63) (v := ?_) (a' := ?_) #[true, true, true, true, true, true, true, true, true, true, true, true, true, false, false, false, false, false, false, false, false, false, false, false, false, false, false, false, false, false, false, false, false, false, false, false] rfl rfl (vb_ HT_.out (by kernel_rfl)) (fun _ _ _ h => h) (Or.inl ⟨by rfl, ?_⟩) ?_ ?_
       rotate_left
       ·intro w'
        go_simp
        with_reducible rfl
       rotate_left
       ·simp only [Act.put, List.setIfInBounds_toArray, List.set_cons_zero, List.set_cons_succ, fb_, hb_]
        rfl
       refine tb_ (i := 13) (N := some 64) (v := ?_) (a' := ?_) #[true, true, true, true, true, true, true, true, true, true, true, true, true, true, false, false, false, false, false, false, false, false, false, false, false, false, false, false, false, false, false, false, false, false, false, false] rfl rfl (vb_ HT_.out (by kernel_rfl)) (fun _ _ _ h => h) (Or.inl ⟨by rfl, ?_⟩) ?_ ?_
       rotate_left
       ·intro w'
        go_simp
        with_reducible rfl
       rotate_left
       ·simp only [Act.put, List.setIfInBounds_toArray, List.set_cons_zero, List.set_cons_succ, fb_, hb_]
        rfl
       refine tb_ (i := 14) (N := some 65) (v := ?_) (a' := ?_) #[true, true, true, true, true, true, true, true, true, true, true, true, true, true, true, false, false, false, false, false, false, false, false, false, false, false, false, false, false, false, false, false, false, false, false, false] rfl rfl (vb_ HT_.out (by kernel_rfl)) (fun _ _ _ h => h) (Or.inl ⟨by rfl, ?_⟩) ?_ ?_
       rotate_left
       ·intro w'
        go_simp
        with_reducible rfl
       rotate_left
       ·simp only [Act.put, List.setIfInBounds_toArray, List.set_cons_zero, List.set_cons_succ, fb_, hb_]
        rfl
       refine tb_ (i := 15) (N := some 66) (v := ?_) (a' := ?_) #[true, true, true, true, true, true, true, true, true, true, true, true, true, true, true, true, false, false, false, false, false, false, false, false, false, false, false, false, false, false, false, false, false, false, false, false] rfl rfl (vb_ HT_.out (by kernel_rfl)) (fun _ _ _ h => h) (Or.inl ⟨by rfl, ?_⟩) ?_ ?_
       rotate_left
       ·intro w'
        go_simp
        with_reducible rfl
       rotate_left
       ·simp only [Act.put, List.setIfInBounds_toArray, List.set_cons_zero, List.set_cons_succ, fb_, hb_]
        rfl
       refine tb_ (i := 16) (N := some 67) (v := ?_) (a' := ?_) #[true, true, true, true, true, true, true, true, true, true, true, true, true, true, true, true, true, false, false, false, false, false, false, false, false, false, false, false, false, false, false, false, false, false, false, false] rfl rfl (vb_ HT_.out (by kernel_rfl)) (fun _ _ _ h => h) (Or.inl ⟨by rfl, ?_⟩) ?_ ?_
       rotate_left
       ·intro w'
        go_simp
        with_reducible rfl
       rotate_left
       ·simp only [Act.put, List.setIfInBounds_toArray, List.set_cons_zero, List.set_cons_succ, fb_, hb_]
        rfl
       refine tb_ (i := 17) (N := some 68) (v := ?_) (a' := ?_) #[true, true, true, true, true, true, true, true, true, true, true, true, true, true, true, true, true, true, false, false, false, false, false, false, false, false, false, false, false, false, false, false, false, false, false, false] rfl rfl (vb_ HT_.out (by kernel_rfl)) (fun _ _ _ h => h) (Or.inl ⟨by rfl, ?_⟩) ?_ ?_
       rotate_left
       ·intro w'
        go_simp
        with_reducible rfl
       rotate_left
       ·simp only [Act.put, List.setIfInBounds_toArray, List.set_cons_zero, List.set_cons_succ, fb_, hb_]
        rfl
       refine tb_ (i := 18) (N := some 69) (v := ?_) (a' := ?_) #[true, true, true, true, true, true, true, true, true, true, true, true, true, true, true, true, true, true, true, false, false, false, false, false, false, false, false, false, false, false, false, false, false, false, false, false] rfl rfl (vb_ HT_.out (by kernel_rfl)) (fun _ _ _ h => h) (Or.inl ⟨by rfl, ?_⟩) ?_ ?_
       rotate_left
       ·intro w'
        go_simp
        with_reducible rfl
       rotate_left
       ·simp only [Act.put, List.setIfInBounds_toArray, List.set_cons_zero, List.set_cons_succ, fb_, hb_]
        rfl
       refine ee_ (i := 19) (N := some 70) (v := ?_) (a' := ?_) #[true, true, true, true, true, true, true, true, true, true, true, true, true, true, true, true, true, true, true, true, false, false, false, false, false, false, false, false, false, false, false, false, false, false, false, false] rfl rfl (ld_ HT_.out HW_.out (by kernel_rfl)) (fun _ _ _ h => h) (Or.inl ⟨by rfl, ?_⟩) hHeld ?_ ?_
       rotate_left
       ·rintro w' ⟨s0, s1, s2, s3, s4, s5, s6, s7⟩
        go_simp
        with_reducible rfl
       rotate_left
       ·simp only [Act.put, List.setIfInBounds_toArray, List.set_cons_zero, List.set_cons_succ, fb_, hb_]
        rfl
       refine ee_ (i := 21) (N := some 72) (v := ?_) (a' := ?_) #[true, true, true, true, true, true, true, true, true, true, true, true, true, true, true, true, true, true, true, true, false, true, false, false, false, false, false, false, false, false, false, false, false, false, false, false] rfl rfl (ld_ HT_.out HW_.out (by kernel_rfl)) (fun _ _ _ h => h) (Or.inl ⟨by rfl, ?_⟩) hHeld ?_ ?_
       rotate_left
       ·rintro w' ⟨s0, s1, s2, s3, s4, s5, s6, s7⟩
        go_simp
        with_reducible rfl
       rotate_left
       ·simp only [Act.put, List.setIfInBounds_toArray, List.set_cons_zero, List.set_cons_succ, fb_, hb_]
        rfl
       refine one_ (i := 20) (N := some 71) #[true, true, true, true, true, true, true, true, true, true, true, true, true, true, true, true, true, true, true, true, true, true, false, false, false, false, false, false, false, false, false, false, false, false, false, false] rfl rfl (ge_ HT_.out (by kernel_rfl)) (by decide) (fun K hK => ?_)
       refine vg_ Tryd.func9 (by kernel_rfl) rfl #[.agg #[.int .i64 a1, .int .i64 a2, .int .i64 a3, .int .i64 a4]] (by rfl) rfl rfl (by (try simp only [List.map_toArray, List.map_cons, List.map_nil]); first | done | rfl | (simp only [List.length_drop, List.length_take]; rfl)) ?_
       with_reducible refine (xc_.calls a1 a2 a3 a4 t220 _ A18.out).mono ?_
       rintro e w47 ⟨rfl, hb⟩
       refine ⟨_, rfl, ?_⟩
       have n0_ := ba_.mk (Kd.vc_ (by (with_reducible repeat (first | apply Kd.ta_ | apply Kd.ua_ | apply Kd.db_)); exact HO204.out) hb)
       have n1_ := ba_.mk (Kd.vc_ (by (with_reducible repeat (first | apply Kd.ta_ | apply Kd.ua_ | apply Kd.db_)); exact HO208.out) hb)
       have n2_ := ba_.mk (Kd.vc_ (by (with_reducible repeat (first | apply Kd.ta_ | apply Kd.ua_ | apply Kd.db_)); exact HO212.out) hb)
       have n3_ := ba_.mk (Kd.vc_ (by (with_reducible repeat (first | apply Kd.ta_ | apply Kd.ua_ | apply Kd.db_)); exact HO216.out) hb)
       have n4_ := ba_.mk (ma_.below (by repeat (first | (with_reducible first | exact HI194.out | apply ma_.alloc | apply ma_.drewN | apply ma_.drew | apply ma_.od_ | refine ma_.far ?_ NB194_195.out _ | refine ma_.far ?_ NB194_201.out _) | exact HI194.out)) hb)
       have n5_ := ba_.mk (zb_ (g := gb195) (o := .cells #[.int .i64 a1, .int .i64 a2, .int .i64 a3, .int .i64 a4] 26 (0, 0)) (by (with_reducible repeat (first | refine ra_ ?_ _ | refine ab_ ?_ | refine qa_ ?_ _)); exact BK195.out) hb)
       have n6_ := ba_.mk (zb_ (g := gb201) (o := .cells #[.int .i64 t196, .int .i64 t197, .int .i64 t198, .int .i64 t199] 26 (0, 0)) (by (with_reducible repeat (first | refine ra_ ?_ _ | refine ab_ ?_ | refine qa_ ?_ _)); exact BK201.out) hb)
       have n7_ := ba_.mk (pa_ (by repeat (first | (with_reducible first | exact HB.out | apply da_ | apply aa_ | apply ca_ | refine ia_ ?_ (ma_.ge HI194.out) | refine ia_ ?_ GE195.out | refine ia_ ?_ GE201.out) | exact HB.out)) hb)
       clear HO204
       clear HO208
       clear HO212
       clear HO216
       clear HI194
       clear BK195
       clear BK201
       clear HB
       have HO204 := n0_
       have HO208 := n1_
       have HO212 := n2_
       have HO216 := n3_
       have HI194 := n4_
       have BK195 := n5_
       have BK201 := n6_
       have HB := n7_
       clear n0_ n1_ n2_ n3_ n4_ n5_ n6_ n7_
       (try clear hb)
       (try clear hb2)
       (try clear hk)
       (try clear hi)
       refine hK.out _ _ ⟨(ga_ BK195.out 0).trans rfl, (ga_ BK195.out 1).trans rfl, (ga_ BK195.out 2).trans rfl, (ga_ BK195.out 3).trans rfl, (ga_ BK201.out 0).trans rfl, (ga_ BK201.out 1).trans rfl, (ga_ BK201.out 2).trans rfl, (ga_ BK201.out 3).trans rfl⟩ (fun hHeld => ?_)
       clear hK K
       refine pf_ (a' := ?_) ?_ ?_
       rotate_left
       ·show Act.put _ (some 71) _ = _
        simp only [Act.put, List.setIfInBounds_toArray, List.set_cons_zero, List.set_cons_succ, fb_, hb_]
        rfl
       refine one_ (i := 22) (N := some 73) #[true, true, true, true, true, true, true, true, true, true, true, true, true, true, true, true, true, true, true, true, true, true, true, false, false, false, false, false, false, false, false, false, false, false, false, false] rfl rfl (ge_ HT_.out (by kernel_rfl)) (by decide) (fun K hK => ?_)
       refine vg_ Tryd.func10 (by kernel_rfl) rfl #[.agg #[.int .i64 a1, .int .i64 a2, .int .i64 a3, .int .i64 a4]] (by rfl) rfl rfl (by (try simp only [List.map_toArray, List.map_cons, List.map_nil]); first | done | rfl | (simp only [List.length_drop, List.length_take]; rfl)) ?_
       with_reducible refine (na_.calls a1 a2 a3 a4 t221 _ A19.out).mono ?_
       rintro e w48 ⟨rfl, hb⟩
       refine ⟨_, rfl, ?_⟩
       have n0_ := ba_.mk (Kd.vc_ (by (with_reducible repeat (first | apply Kd.ta_ | apply Kd.ua_ | apply Kd.db_)); exact HO204.out) hb)
       have n1_ := ba_.mk (Kd.vc_ (by (with_reducible repeat (first | apply Kd.ta_ | apply Kd.ua_ | apply Kd.db_)); exact HO208.out) hb)
       have n2_ := ba_.mk (Kd.vc_ (by (with_reducible repeat (first | apply Kd.ta_ | apply Kd.ua_ | apply Kd.db_)); exact HO212.out) hb)
       have n3_ := ba_.mk (Kd.vc_ (by (with_reducible repeat (first | apply Kd.ta_ | apply Kd.ua_ | apply Kd.db_)); exact HO216.out) hb)
       have n4_ := ba_.mk (ma_.below (by repeat (first | (with_reducible first | exact HI194.out | apply ma_.alloc | apply ma_.drewN | apply ma_.drew | apply ma_.od_ | refine ma_.far ?_ NB194_195.out _ | refine ma_.far ?_ NB194_201.out _) | exact HI194.out)) hb)
       have n5_ := ba_.mk (zb_ (g := gb195) (o := .cells #[.int .i64 a1, .int .i64 a2, .int .i64 a3, .int .i64 a4] 26 (0, 0)) (by (with_reducible repeat (first | refine ra_ ?_ _ | refine ab_ ?_ | refine qa_ ?_ _)); exact BK195.out) hb)
       have n6_ := ba_.mk (zb_ (g := gb201) (o := .cells #[.int .i64 t196, .int .i64 t197, .int .i64 t198, .int .i64 t199] 26 (0, 0)) (by (with_reducible repeat (first | refine ra_ ?_ _ | refine ab_ ?_ | refine qa_ ?_ _)); exact BK201.out) hb)
       have n7_ := ba_.mk (pa_ (by repeat (first | (with_reducible first | exact HB.out | apply da_ | apply aa_ | apply ca_ | refine ia_ ?_ (ma_.ge HI194.out) | refine ia_ ?_ GE195.out | refine ia_ ?_ GE201.out) | exact HB.out)) hb)
       clear HO204
       clear HO208
       clear HO212
       clear HO216
       clear HI194
       clear BK195
       clear BK201
       clear HB
       have HO204 := n0_
       have HO208 := n1_
       have HO212 := n2_
       have HO216 := n3_
       have HI194 := n4_
       have BK195 := n5_
       have BK201 := n6_
       have HB := n7_
       clear n0_ n1_ n2_ n3_ n4_ n5_ n6_ n7_
       (try clear hb)
       (try clear hb2)
       (try clear hk)
       (try clear hi)
       refine hK.out _ _ ⟨(ga_ BK195.out 0).trans rfl, (ga_ BK195.out 1).trans rfl, (ga_ BK195.out 2).trans rfl, (ga_ BK195.out 3).trans rfl, (ga_ BK201.out 0).trans rfl, (ga_ BK201.out 1).trans rfl, (ga_ BK201.out 2).trans rfl, (ga_ BK201.out 3).trans rfl⟩ (fun hHeld => ?_)
       clear hK K
       refine pf_ (a' := ?_) ?_ ?_
       rotate_left
       ·show Act.put _ (some 73) _ = _
        simp only [Act.put, List.setIfInBounds_toArray, List.set_cons_zero, List.set_cons_succ, fb_, hb_]
        rfl
       refine tb_ (i := 23) (N := some 74) (v := ?_) (a' := ?_) #[true, true, true, true, true, true, true, true, true, true, true, true, true, true, true, true, true, true, true, true, true, true, true, true, false, false, false, false, false, false, false, false, false, false, false, false] rfl rfl (vb_ HT_.out (by kernel_rfl)) (fun _ _ _ h => h) (Or.inl ⟨by rfl, ?_⟩) ?_ ?_
       rotate_left
       ·intro w'
        go_simp
        with_reducible rfl
       rotate_left
       ·simp only [Act.put, List.setIfInBounds_toArray, List.set_cons_zero, List.set_cons_succ, fb_, hb_]
        rfl
       refine tb_ (i := 24) (N := some 75) (v := ?_) (a' := ?_) #[true, true, true, true, true, true, true, true, true, true, true, true, true, true, true, true, true, true, true, true, true, true, true, true, true, false, false, false, false, false, false, false, false, false, false, false] rfl rfl (vb_ HT_.out (by kernel_rfl)) (fun _ _ _ h => h) (Or.inl ⟨by rfl, ?_⟩) ?_ ?_
       rotate_left
       ·intro w'
        go_simp
        with_reducible rfl
       rotate_left
       ·simp only [Act.put, List.setIfInBounds_toArray, List.set_cons_zero, List.set_cons_succ, fb_, hb_]
        rfl
       refine tb_ (i := 25) (N := some 76) (v := ?_) (a' := ?_) #[true, true, true, true, true, true, true, true, true, true, true, true, true, true, true, true, true, true, true, true, true, true, true, true, true, true, false, false, false, false, false, false, false, false, false, false] rfl rfl (vb_ HT_.out (by kernel_rfl)) (fun _ _ _ h => h) (Or.inl ⟨by rfl, ?_⟩) ?_ ?_
       rotate_left
       ·intro w'
        go_simp
        with_reducible rfl
       rotate_left
       ·simp only [Act.put, List.setIfInBounds_toArray, List.set_cons_zero, List.set_cons_succ, fb_, hb_]
        rfl
       refine ee_ (i := 26) (N := some 77) (v := ?_) (a' := ?_) #[true, true, true, true, true, true, true, true, true, true, true, true, true, true, true, true, true, true, true, true, true, true, true, true, true, true, true, false, false, false, false, false, false, false, false, false] rfl rfl (ld_ HT_.out HW_.out (by kernel_rfl)) (fun _ _ _ h => h) (Or.inl ⟨by rfl, ?_⟩) hHeld ?_ ?_
       rotate_left
       ·rintro w' ⟨s0, s1, s2, s3, s4, s5, s6, s7⟩
        go_simp
        with_reducible rfl
       rotate_left
       ·simp only [Act.put, List.setIfInBounds_toArray, List.set_cons_zero, List.set_cons_succ, fb_, hb_]
        rfl
       refine ee_ (i := 28) (N := some 79) (v := ?_) (a' := ?_) #[true, true, true, true, true, true, true, true, true, true, true, true, true, true, true, true, true, true, true, true, true, true, true, true, true, true, true, false, true, false, false, false, false, false, false, false] rfl rfl (ld_ HT_.out HW_.out (by kernel_rfl)) (fun _ _ _ h => h) (Or.inl ⟨by rfl, ?_⟩) hHeld ?_ ?_
       rotate_left
       ·rintro w' ⟨s0, s1, s2, s3, s4, s5, s6, s7⟩
        go_simp
        with_reducible rfl
       rotate_left
       ·simp only [Act.put, List.setIfInBounds_toArray, List.set_cons_zero, List.set_cons_succ, fb_, hb_]
        rfl
       refine one_ (i := 27) (N := some 78) #[true, true, true, true, true, true, true, true, true, true, true, true, true, true, true, true, true, true, true, true, true, true, true, true, true, true, true, true, true, false, false, false, false, false, false, false] rfl rfl (ge_ HT_.out (by kernel_rfl)) (by decide) (fun K hK => ?_)
       refine vg_ Tryd.func9 (by kernel_rfl) rfl #[.agg #[.int .i64 t196, .int .i64 t197, .int .i64 t198, .int .i64 t199]] (by rfl) rfl rfl (by (try simp only [List.map_toArray, List.map_cons, List.map_nil]); first | done | rfl | (simp only [List.length_drop, List.length_take]; rfl)) ?_
       with_reducible refine (xc_.calls t196 t197 t198 t199 t222 _ A21.out).mono ?_
       rintro e w49 ⟨rfl, hb⟩
       refine ⟨_, rfl, ?_⟩
       have n0_ := ba_.mk (Kd.vc_ (by (with_reducible repeat (first | apply Kd.ta_ | apply Kd.ua_ | apply Kd.db_)); exact HO204.out) hb)
       have n1_ := ba_.mk (Kd.vc_ (by (with_reducible repeat (first | apply Kd.ta_ | apply Kd.ua_ | apply Kd.db_)); exact HO208.out) hb)
       have n2_ := ba_.mk (Kd.vc_ (by (with_reducible repeat (first | apply Kd.ta_ | apply Kd.ua_ | apply Kd.db_)); exact HO212.out) hb)
       have n3_ := ba_.mk (Kd.vc_ (by (with_reducible repeat (first | apply Kd.ta_ | apply Kd.ua_ | apply Kd.db_)); exact HO216.out) hb)
       have n4_ := ba_.mk (ma_.below (by repeat (first | (with_reducible first | exact HI194.out | apply ma_.alloc | apply ma_.drewN | apply ma_.drew | apply ma_.od_ | refine ma_.far ?_ NB194_195.out _ | refine ma_.far ?_ NB194_201.out _) | exact HI194.out)) hb)
       have n5_ := ba_.mk (zb_ (g := gb195) (o := .cells #[.int .i64 a1, .int .i64 a2, .int .i64 a3, .int .i64 a4] 26 (0, 0)) (by (with_reducible repeat (first | refine ra_ ?_ _ | refine ab_ ?_ | refine qa_ ?_ _)); exact BK195.out) hb)
       have n6_ := ba_.mk (zb_ (g := gb201) (o := .cells #[.int .i64 t196, .int .i64 t197, .int .i64 t198, .int .i64 t199] 26 (0, 0)) (by (with_reducible repeat (first | refine ra_ ?_ _ | refine ab_ ?_ | refine qa_ ?_ _)); exact BK201.out) hb)
       have n7_ := ba_.mk (pa_ (by repeat (first | (with_reducible first | exact HB.out | apply da_ | apply aa_ | apply ca_ | refine ia_ ?_ (ma_.ge HI194.out) | refine ia_ ?_ GE195.out | refine ia_ ?_ GE201.out) | exact HB.out)) hb)
       clear HO204
       clear HO208
       clear HO212
       clear HO216
       clear HI194
       clear BK195
       clear BK201
       clear HB
       have HO204 := n0_
       have HO208 := n1_
       have HO212 := n2_
       have HO216 := n3_
       have HI194 := n4_
       have BK195 := n5_
       have BK201 := n6_
       have HB := n7_
       clear n0_ n1_ n2_ n3_ n4_ n5_ n6_ n7_
       (try clear hb)
       (try clear hb2)
       (try clear hk)
       (try clear hi)
       refine hK.out _ _ ⟨(ga_ BK195.out 0).trans rfl, (ga_ BK195.out 1).trans rfl, (ga_ BK195.out 2).trans rfl, (ga_ BK195.out 3).trans rfl, (ga_ BK201.out 0).trans rfl, (ga_ BK201.out 1).trans rfl, (ga_ BK201.out 2).trans rfl, (ga_ BK201.out 3).trans rfl⟩ (fun hHeld => ?_)
       clear hK K
       refine pf_ (a' := ?_) ?_ ?_
       rotate_left
       ·show Act.put _ (some 78) _ = _
        simp only [Act.put, List.setIfInBounds_toArray, List.set_cons_zero, List.set_cons_succ, fb_, hb_]
        rfl
       refine one_ (i := 29) (N := some 80) #[true, true, true, true, true, true, true, true, true, true, true, true, true, true, true, true, true, true, true, true, true, true, true, true, true, true, true, true, true, true, false, false, false, false, false, false] rfl rfl (ge_ HT_.out (by kernel_rfl)) (by decide) (fun K hK => ?_)
       refine vg_ Tryd.func10 (by kernel_rfl) rfl #[.agg #[.int .i64 t196, .int .i64 t197, .int .i64 t198, .int .i64 t199]] (by rfl) rfl rfl (by (try simp only [List.map_toArray, List.map_cons, List.map_nil]); first | done | rfl | (simp only [List.length_drop, List.length_take]; rfl)) ?_
       with_reducible refine (na_.calls t196 t197 t198 t199 t223 _ A22.out).mono ?_
       rintro e w50 ⟨rfl, hb⟩
       refine ⟨_, rfl, ?_⟩
       have n0_ := ba_.mk (Kd.vc_ (by (with_reducible repeat (first | apply Kd.ta_ | apply Kd.ua_ | apply Kd.db_)); exact HO204.out) hb)
       have n1_ := ba_.mk (Kd.vc_ (by (with_reducible repeat (first | apply Kd.ta_ | apply Kd.ua_ | apply Kd.db_)); exact HO208.out) hb)
       have n2_ := ba_.mk (Kd.vc_ (by (with_reducible repeat (first | apply Kd.ta_ | apply Kd.ua_ | apply Kd.db_)); exact HO212.out) hb)
       have n3_ := ba_.mk (Kd.vc_ (by (with_reducible repeat (first | apply Kd.ta_ | apply Kd.ua_ | apply Kd.db_)); exact HO216.out) hb)
       have n4_ := ba_.mk (ma_.below (by repeat (first | (with_reducible first | exact HI194.out | apply ma_.alloc | apply ma_.drewN | apply ma_.drew | apply ma_.od_ | refine ma_.far ?_ NB194_195.out _ | refine ma_.far ?_ NB194_201.out _) | exact HI194.out)) hb)
       have n5_ := ba_.mk (zb_ (g := gb195) (o := .cells #[.int .i64 a1, .int .i64 a2, .int .i64 a3, .int .i64 a4] 26 (0, 0)) (by (with_reducible repeat (first | refine ra_ ?_ _ | refine ab_ ?_ | refine qa_ ?_ _)); exact BK195.out) hb)
       have n6_ := ba_.mk (zb_ (g := gb201) (o := .cells #[.int .i64 t196, .int .i64 t197, .int .i64 t198, .int .i64 t199] 26 (0, 0)) (by (with_reducible repeat (first | refine ra_ ?_ _ | refine ab_ ?_ | refine qa_ ?_ _)); exact BK201.out) hb)
       have n7_ := ba_.mk (pa_ (by repeat (first | (with_reducible first | exact HB.out | apply da_ | apply aa_ | apply ca_ | refine ia_ ?_ (ma_.ge HI194.out) | refine ia_ ?_ GE195.out | refine ia_ ?_ GE201.out) | exact HB.out)) hb)
       clear HO204
       clear HO208
       clear HO212
       clear HO216
       clear HI194
       clear BK195
       clear BK201
       clear HB
       have HO204 := n0_
       have HO208 := n1_
       have HO212 := n2_
       have HO216 := n3_
       have HI194 := n4_
       have BK195 := n5_
       have BK201 := n6_
       have HB := n7_
       clear n0_ n1_ n2_ n3_ n4_ n5_ n6_ n7_
       (try clear hb)
       (try clear hb2)
       (try clear hk)
       (try clear hi)
       refine hK.out _ _ ⟨(ga_ BK195.out 0).trans rfl, (ga_ BK195.out 1).trans rfl, (ga_ BK195.out 2).trans rfl, (ga_ BK195.out 3).trans rfl, (ga_ BK201.out 0).trans rfl, (ga_ BK201.out 1).trans rfl, (ga_ BK201.out 2).trans rfl, (ga_ BK201.out 3).trans rfl⟩ (fun hHeld => ?_)
       clear hK K
       refine pf_ (a' := ?_) ?_ ?_
       rotate_left
       ·show Act.put _ (some 80) _ = _
        simp only [Act.put, List.setIfInBounds_toArray, List.set_cons_zero, List.set_cons_succ, fb_, hb_]
        rfl
       refine tb_ (i := 30) (N := some 81) (v := ?_) (a' := ?_) #[true, true, true, true, true, true, true, true, true, true, true, true, true, true, true, true, true, true, true, true, true, true, true, true, true, true, true, true, true, true, true, false, false, false, false, false] rfl rfl (vb_ HT_.out (by kernel_rfl)) (fun _ _ _ h => h) (Or.inl ⟨by rfl, ?_⟩) ?_ ?_
       rotate_left
       ·intro w'
        go_simp
        with_reducible rfl
       rotate_left
       ·simp only [Act.put, List.setIfInBounds_toArray, List.set_cons_zero, List.set_cons_succ, fb_, hb_]
        rfl
       refine tb_ (i := 31) (N := some 82) (v := ?_) (a' := ?_) #[true, true, true, true, true, true, true, true, true, true, true, true, true, true, true, true, true, true, true, true, true, true, true, true, true, true, true, true, true, true, true, true, false, false, false, false] rfl rfl (vb_ HT_.out (by kernel_rfl)) (fun _ _ _ h => h) (Or.inl ⟨by rfl, ?_⟩) ?_ ?_
       rotate_left
       ·intro w'
        go_simp
        with_reducible rfl
       rotate_left
       ·simp only [Act.put, List.setIfInBounds_toArray, List.set_cons_zero, List.set_cons_succ, fb_, hb_]
        rfl
       refine tb_ (i := 32) (N := some 83) (v := ?_) (a' := ?_) #[true, true, true, true, true, true, true, true, true, true, true, true, true, true, true, true, true, true, true, true, true, true, true, true, true, true, true, true, true, true, true, true, true, false, false, false] rfl rfl (vb_ HT_.out (by kernel_rfl)) (fun _ _ _ h => h) (Or.inl ⟨by rfl, ?_⟩) ?_ ?_
       rotate_left
       ·intro w'
        go_simp
        with_reducible rfl
       rotate_left
       ·simp only [Act.put, List.setIfInBounds_toArray, List.set_cons_zero, List.set_cons_succ, fb_, hb_]
        rfl
       refine one_ (i := 33) (N := some 84) #[true, true, true, true, true, true, true, true, true, true, true, true, true, true, true, true, true, true, true, true, true, true, true, true, true, true, true, true, true, true, true, true, true, true, false, false] rfl rfl (ge_ HT_.out (by kernel_rfl)) (by decide) (fun K hK => ?_)
       refine vg_ Tryd.func11 (by kernel_rfl) rfl #[] (by rfl) rfl rfl (by (try simp only [List.map_toArray, List.map_cons, List.map_nil]); first | done | rfl | (simp only [List.length_drop, List.length_take]; rfl)) ?_
       with_reducible refine (ob_.calls  t224 _ A24.out HRT.out).mono ?_
       rintro e w51 ⟨rfl, hb⟩
       refine ⟨_, rfl, ?_⟩
       have n0_ := ba_.mk (Kd.vc_ (by (with_reducible repeat (first | apply Kd.ta_ | apply Kd.ua_ | apply Kd.db_)); exact HO204.out) hb)
       have n1_ := ba_.mk (Kd.vc_ (by (with_reducible repeat (first | apply Kd.ta_ | apply Kd.ua_ | apply Kd.db_)); exact HO208.out) hb)
       have n2_ := ba_.mk (Kd.vc_ (by (with_reducible repeat (first | apply Kd.ta_ | apply Kd.ua_ | apply Kd.db_)); exact HO212.out) hb)
       have n3_ := ba_.mk (Kd.vc_ (by (with_reducible repeat (first | apply Kd.ta_ | apply Kd.ua_ | apply Kd.db_)); exact HO216.out) hb)
       have n4_ := ba_.mk (ma_.below (by repeat (first | (with_reducible first | exact HI194.out | apply ma_.alloc | apply ma_.drewN | apply ma_.drew | apply ma_.od_ | refine ma_.far ?_ NB194_195.out _ | refine ma_.far ?_ NB194_201.out _) | exact HI194.out)) hb)
       have n5_ := ba_.mk (zb_ (g := gb195) (o := .cells #[.int .i64 a1, .int .i64 a2, .int .i64 a3, .int .i64 a4] 26 (0, 0)) (by (with_reducible repeat (first | refine ra_ ?_ _ | refine ab_ ?_ | refine qa_ ?_ _)); exact BK195.out) hb)
       have n6_ := ba_.mk (zb_ (g := gb201) (o := .cells #[.int .i64 t196, .int .i64 t197, .int .i64 t198, .int .i64 t199] 26 (0, 0)) (by (with_reducible repeat (first | refine ra_ ?_ _ | refine ab_ ?_ | refine qa_ ?_ _)); exact BK201.out) hb)
       have n7_ := ba_.mk (pa_ (by repeat (first | (with_reducible first | exact HB.out | apply da_ | apply aa_ | apply ca_ | refine ia_ ?_ (ma_.ge HI194.out) | refine ia_ ?_ GE195.out | refine ia_ ?_ GE201.out) | exact HB.out)) hb)
       clear HO204
       clear HO208
       clear HO212
       clear HO216
       clear HI194
       clear BK195
       clear BK201
       clear HB
       have HO204 := n0_
       have HO208 := n1_
       have HO212 := n2_
       have HO216 := n3_
       have HI194 := n4_
       have BK195 := n5_
       have BK201 := n6_
       have HB := n7_
       clear n0_ n1_ n2_ n3_ n4_ n5_ n6_ n7_
       (try clear hb)
       (try clear hb2)
       (try clear hk)
       (try clear hi)
       refine hK.out _ _ ⟨(ga_ BK195.out 0).trans rfl, (ga_ BK195.out 1).trans rfl, (ga_ BK195.out 2).trans rfl, (ga_ BK195.out 3).trans rfl, (ga_ BK201.out 0).trans rfl, (ga_ BK201.out 1).trans rfl, (ga_ BK201.out 2).trans rfl, (ga_ BK201.out 3).trans rfl⟩ (fun hHeld => ?_)
       clear hK K
       refine pf_ (a' := ?_) ?_ ?_
       rotate_left
       ·show Act.put _ (some 84) _ = _
        simp only [Act.put, List.setIfInBounds_toArray, List.set_cons_zero, List.set_cons_succ, fb_, hb_]
        rfl
       refine tb_ (i := 34) (N := some 85) (v := ?_) (a' := ?_) #[true, true, true, true, true, true, true, true, true, true, true, true, true, true, true, true, true, true, true, true, true, true, true, true, true, true, true, true, true, true, true, true, true, true, true, false] rfl rfl (vb_ HT_.out (by kernel_rfl)) (fun _ _ _ h => h) (Or.inl ⟨by rfl, ?_⟩) ?_ ?_
       rotate_left
       ·intro w'
        go_simp
        with_reducible rfl
       rotate_left
       ·simp only [Act.put, List.setIfInBounds_toArray, List.set_cons_zero, List.set_cons_succ, fb_, hb_]
        rfl
       refine tb_ (i := 35) (N := some 10) (v := ?_) (a' := ?_) #[true, true, true, true, true, true, true, true, true, true, true, true, true, true, true, true, true, true, true, true, true, true, true, true, true, true, true, true, true, true, true, true, true, true, true, true] rfl rfl (vb_ HT_.out (by kernel_rfl)) (fun _ _ _ h => h) (Or.inl ⟨by rfl, ?_⟩) ?_ ?_
       rotate_left
       ·intro w'
        go_simp
        with_reducible rfl
       rotate_left
       ·simp only [Act.put, List.setIfInBounds_toArray, List.set_cons_zero, List.set_cons_succ, fb_, hb_]
        rfl
       refine hh_ (og_ HT_.out (by kernel_rfl)) ?_
       try go_wp2
       go_ret
       exact ⟨by first | rfl | (simp [xa_, ya_] <;> rfl) | (simp [*, xa_, ya_] <;> rfl), by repeat (first | (with_reducible first | exact HB.out | apply da_ | apply aa_ | apply ca_ | refine ia_ ?_ (ma_.ge HI194.out) | refine ia_ ?_ GE195.out | refine ia_ ?_ GE201.out) | exact HB.out)⟩
      ·rw [if_neg c23] at H
       have c23b0 : (t222 == t223) = false := by simpa using c23
       try have c23b9 := eq_false (beq_eq_false_iff_ne.mp c23b0)
       (try (have c23b1 : decide (t222 = t223) = false := by simpa using c23))
       (try (have c23b2 : (t222 == t223) = false := by simpa using c23))
       (try (have c23b3 : ¬ (t222 = t223) := by simpa using c23))
       clear c23
       exact absurd ((Option.some.inj H).trans HRT.out) (by decide)
     ·rw [if_neg c20] at H
      have c20b0 : (t220 == t221) = false := by simpa using c20
      try have c20b9 := eq_false (beq_eq_false_iff_ne.mp c20b0)
      (try (have c20b1 : decide (t220 = t221) = false := by simpa using c20))
      (try (have c20b2 : (t220 == t221) = false := by simpa using c20))
      (try (have c20b3 : ¬ (t220 = t221) := by simpa using c20))
      clear c20
      exact absurd ((Option.some.inj H).trans HRT.out) (by decide)
    ·rw [if_neg c17] at H
     have c17b0 : (t213 == t217) = false := beq_eq_false_iff_ne.mpr c17
     try have c17b9 := eq_false (beq_eq_false_iff_ne.mp c17b0)
     have c17b1 : (t213 != t217) = true := bne_iff_ne.mpr c17
     exact absurd ((Option.some.inj H).trans HRT.out) (by decide)
   ·replace c16 := Bool.eq_false_iff.mpr c16
    subst c16
    have H1 : (some false) = some r := by rw [if_neg (show ¬ (false = true) by decide)] at H; exact H
    clear H
    have H := H1
    clear H1
    exact absurd ((Option.some.inj H).trans HRT.out) (by decide)
  ·rw [if_neg c14] at H
   have c14b0 : (t205 == t209) = false := beq_eq_false_iff_ne.mpr c14
   try have c14b9 := eq_false (beq_eq_false_iff_ne.mp c14b0)
   have c14b1 : (t205 != t209) = true := bne_iff_ne.mpr c14
   exact absurd ((Option.some.inj H).trans HRT.out) (by decide)
 ·replace c13 := Bool.eq_false_iff.mpr c13
  subst c13
  have H1 : (some false) = some r := by rw [if_neg (show ¬ (false = true) by decide)] at H; exact H
  clear H
  have H := H1
  clear H1
  exact absurd ((Option.some.inj H).trans HRT.out) (by decide)
def za_.Pure : Prop := ∀ (l0 : List Int) (a1 : Int) (a2 : Int) (a3 : Int) (a4 : Int), l0.length ≤ maxLen → l0.length * 8 ≤ 140737488351232 → (∀ x ∈ l0, (Lit.int .i64 x).wf = true) → (Lit.int .i64 a1).wf = true → (Lit.int .i64 a2).wf = true → (Lit.int .i64 a3).wf = true → (Lit.int .i64 a4).wf = true → ∃ k, za_.f k l0 a1 a2 a3 a4 = some true
theorem za_.walk (P : za_.Pure) (a0 : Option Addr) (len0 cap0 : Nat) (z0 : List Int) (a1 : Int) (a2 : Int) (a3 : Int) (a4 : Int) (w : World) (w0 : (a0 = none ∧ len0 = 0 ∧ cap0 = 0 ∧ z0 = []) ∨ ∃ x, a0 = some x ∧ len0 ≤ cap0 ∧ cap0 ≤ maxLen ∧ z0.length = cap0 ∧ (∀ i, i < z0.length → w.cell? (x.add i) = some (.int .i64 (z0.getD i 0))) ∧ ∀ n ∈ z0, (Lit.int .i64 n).wf = true) (y0 : len0 * 8 ≤ 140737488351232) (w1 : (Lit.int .i64 a1).wf = true) (w2 : (Lit.int .i64 a2).wf = true) (w3 : (Lit.int .i64 a3).wf = true) (w4 : (Lit.int .i64 a4).wf = true) :
  Calls Tryd.prog 3 #[.slice a0 len0 cap0, .int .i64 a1, .int .i64 a2, .int .i64 a3, .int .i64 a4] w fun e w' => e = .returned (.bool true) ∧ Below w.heap.size w w' := by
 obtain ⟨l0, rfl, hr0, hm0, hw0, hc0⟩ := bd_.ofRowC w0
 obtain ⟨k, h⟩ := P l0 a1 a2 a3 a4 hm0 y0 hw0 w1 w2 w3 w4
 refine (za_.calls k _ _ l0 a1 a2 a3 a4 true w (Kd.ej_ (d := (0 : Int)) (h1 := fun _ => rfl) hr0) hc0 h rfl).mono ?_
 rintro e w' ⟨rfl, hd⟩
 exact ⟨rfl, hd⟩
end Go.Proofs.YtpkhgapifnjbeaaDoor.T
end
section
namespace Go.Proofs.YtpkhgapifnjbeaaDoor.Pure
set_option linter.unusedVariables false
set_option linter.unusedSimpArgs false
open Go.RowKit Go.Proofs.YtpkhgapifnjbeaaDoor.T Go.Proofs.YtpkhgapifnjbeaaDoorW.PrintWords Go.Proofs.YtpkhgapifnjbeaaDoorW.PrintLast Go.Proofs.YtpkhgapifnjbeaaDoorW.PrintMore Go.Proofs.YtpkhgapifnjbeaaDoor.G Go.Proofs.YtpkhgapifnjbeaaDoor.Rs
theorem or_ : ob_.f = some true := by decide +kernel
theorem bp_ (l : List Int) (i : Nat) : rd l (i : Int) = l.getD i 0 := by simp [rd]
theorem gs_ {l : List Int} {p : Int} (h : 0 ≤ p) : rd l p = l.getD p.toNat 0 := by
 obtain ⟨n, rfl⟩ : ∃ n : Nat, p = n := ⟨p.toNat, by omega⟩
 rw [bp_, Int.toNat_natCast]
theorem no_ {l : List Int} {i : Nat} (h : i < l.length) : l.getD i 0 ∈ l := by
 rw [List.getD_eq_getElem?_getD, List.getElem?_eq_getElem h]; exact List.getElem_mem _
theorem qq_ (a b : Int) (h1 : 1 ≤ b) : (if Int.tmod a b < 0 then Int.tmod a b + b else Int.tmod a b) = a % b ∧ -b < Int.tmod a b := by
 have h := Int.emod_nonneg a (b := b) (by omega)
 have h' := Int.emod_lt_of_pos a (show 0 < b by omega)
 have e := @Int.tmod_eq_emod a b
 by_cases c : 0 ≤ a ∨ b ∣ a
 ·rw [if_pos c] at e
  rw [if_neg (by omega)]; omega
 ·rw [if_neg c] at e
  have : a % b ≠ 0 := fun q => c (.inr (Int.dvd_of_emod_eq_zero q))
  rw [if_pos (by omega)]; omega
theorem cut_f (a b : Int) (h1 : 1 ≤ b) (h2 : b ≤ 1000000) : yc_.f a b = some (a % b) := by
 obtain ⟨e, h⟩ := qq_ a b h1
 unfold yc_.f
 rw [if_neg (by omega), if_neg (by omega)]
 by_cases c : Int.tmod a b < 0
 ·rw [if_pos c] at e
  rw [if_pos c, show wrap64 (Int.tmod a b + b) = Int.tmod a b + b from by unfold wrap64; omega, e]
 ·rw [if_neg c] at e
  rw [if_neg c, e]
def TA (p : Int) : Prop := 0 ≤ p ∧ p ≤ 600
theorem new_f (l : List Int) : ∃ L, fd_.f l = some (L, 0) ∧ L.length ≤ 600 ∧ TA 0 := by
 unfold fd_.f
 by_cases h : (l.length : Int) > 600
 ·rw [if_pos h, if_pos (by omega)]
  exact ⟨_, rfl, by rw [List.length_take]; omega, by unfold TA; omega⟩
 ·rw [if_neg h]
  exact ⟨l, rfl, by omega, by unfold TA; omega⟩
theorem raw_f {L : List Int} (hL : L.length ≤ 600) {p : Int} (hp : TA p) : ∃ v q, pc_.f L p = some (v, q) ∧ TA q := by
 unfold TA at hp
 unfold pc_.f
 by_cases h : p ≥ (L.length : Int)
 ·rw [if_pos h]; exact ⟨_, _, rfl, hp⟩
 ·have e1 : wrap64 (p + 1) = p + 1 := by unfold wrap64; omega
  have e2 : wrap64 (p + 1 - 1) = p := by unfold wrap64; omega
  rw [if_neg h, e1, e2, if_pos (by omega), if_pos (by omega)]
  exact ⟨_, _, rfl, by unfold TA; omega⟩
theorem wo_ {L : List Int} (hL : L.length ≤ 600) {p : Int} (hp : TA p) (n : Int) (h1 : 1 ≤ n) (h2 : n ≤ 1000000) : ∃ v q, xb_.f L p n = some (v, q) ∧ 0 ≤ v ∧ v < n ∧ TA q := by
 obtain ⟨v, q, e, hq⟩ := raw_f hL hp
 unfold xb_.f
 rw [e]
 simp only [Option.bind_some]
 rw [cut_f v n h1 h2]
 exact ⟨_, _, rfl, Int.emod_nonneg _ (by omega), Int.emod_lt_of_pos _ (by omega), hq⟩
theorem fm_ {L : List Int} (hL : L.length ≤ 600) {p : Int} (hp : TA p) (a b : Int) (h0 : -1000 ≤ a) (h1 : a ≤ b) (h2 : b ≤ 100000) : ∃ v q, bb_.f L p a b = some (v, q) ∧ a ≤ v ∧ v ≤ b ∧ TA q := by
 have e1 : wrap64 (wrap64 (b - a) + 1) = b - a + 1 := by unfold wrap64; omega
 obtain ⟨v, q, e, v0, v1, hq⟩ := wo_ hL hp (b - a + 1) (by omega) (by omega)
 unfold bb_.f
 rw [e1, e]
 simp only [Option.bind_some]
 have e2 : wrap64 (a + v) = a + v := by unfold wrap64; omega
 rw [e2]
 exact ⟨_, _, rfl, by omega, by omega, hq⟩
theorem one_f {L : List Int} (hL : L.length ≤ 600) {p : Int} (hp : TA p) (n : Int) (h1 : 1 ≤ n) (h2 : n ≤ 1000000) : ∃ v q, lc_.f L p n = some (v, q) ∧ TA q := by
 obtain ⟨v, q, e, _, _, hq⟩ := wo_ hL hp n h1 h2
 unfold lc_.f
 rw [e]
 exact ⟨_, _, rfl, hq⟩
theorem br_ {L : List Int} (hL : L.length ≤ 600) {p : Int} (hp : TA p) (l : List Int) (h1 : 1 ≤ l.length) (h2 : l.length ≤ 1000) : ∃ v q, ub_.f L p l = some (v, q) ∧ v ∈ l ∧ TA q := by
 obtain ⟨v, q, e, v0, v1, hq⟩ := wo_ hL hp (l.length : Int) (by omega) (by omega)
 unfold ub_.f
 rw [e]
 simp only [Option.bind_some]
 rw [if_pos v0, if_pos v1]
 refine ⟨_, _, rfl, ?_, hq⟩
 rw [gs_ v0]
 exact no_ (by omega)
theorem wild_f {L : List Int} (hL : L.length ≤ 600) {p : Int} (hp : TA p) : ∃ v q, fc_.f L p = some (v, q) ∧ TA q := by
 obtain ⟨v, q, e, _, hq⟩ := br_ hL hp ([(-1), 0, 1, 2, 31, 32, 99, 100, 200, 201, 9999, 10000, 1000000, 1000001, 1152921504606846976, 1152921504606846977, (-1152921504606846976), 9223372036854775807, (-9223372036854775808)] : List Int) (by decide) (by decide)
 unfold fc_.f
 rw [e]
 exact ⟨_, _, rfl, hq⟩
theorem gk_ {L : List Int} (hL : L.length ≤ 600) {p : Int} (hp : TA p) (a m : Int) (hm : m ≤ 1000) : ∃ v q, ka_.f L p a m = some (v, q) ∧ TA q ∧ (m = 0 → v = a) := by
 unfold ka_.f
 by_cases h : m > 0
 ·rw [if_pos h]
  obtain ⟨b, q, e, hq⟩ := one_f hL hp m (by omega) (by omega)
  rw [e]
  simp only [Option.bind_some]
  cases b with
  | true =>
   rw [if_pos rfl]
   obtain ⟨v, r, e2, hr⟩ := wild_f hL hq
   rw [e2]
   exact ⟨_, _, rfl, hr, fun q => by omega⟩
  | false =>
   rw [if_neg (by decide)]
   exact ⟨_, _, rfl, hq, fun q => by omega⟩
 ·rw [if_neg h]
  exact ⟨_, _, rfl, hp, fun _ => rfl⟩
def okL (a b c d : Int) : Prop := (0 ≤ a ∧ a ≤ 31) ∧ (0 ≤ b ∧ b ≤ 9999) ∧ (0 ≤ c ∧ c ≤ 31) ∧ (0 ≤ d ∧ d ≤ 31)
theorem vr_ {L : List Int} (hL : L.length ≤ 600) {p : Int} (hp : TA p) (m : Int) (hm : m ≤ 1000) : ∃ a b c d q, gc_.f L p m = some (a, b, c, d, q) ∧ TA q ∧ (m = 0 → okL a b c d) := by
 unfold gc_.f
 obtain ⟨v1, q1, e1, l1, u1, h1⟩ := fm_ hL hp 0 31 (by omega) (by omega) (by omega)
 rw [e1]; simp only [Option.bind_some]
 obtain ⟨a, q2, e2, h2, i2⟩ := gk_ hL h1 v1 m hm
 rw [e2]; simp only [Option.bind_some]
 obtain ⟨v3, q3, e3, m3, h3⟩ := br_ hL h2 ([0, 1, 31, 32, 1023, 1024, 5000, 9998, 9999] : List Int) (by decide) (by decide)
 rw [e3]; simp only [Option.bind_some]
 obtain ⟨b, q4, e4, h4, i4⟩ := gk_ hL h3 v3 m hm
 rw [e4]; simp only [Option.bind_some]
 obtain ⟨v5, q5, e5, l5, u5, h5⟩ := fm_ hL h4 0 31 (by omega) (by omega) (by omega)
 rw [e5]; simp only [Option.bind_some]
 obtain ⟨c, q6, e6, h6, i6⟩ := gk_ hL h5 v5 m hm
 rw [e6]; simp only [Option.bind_some]
 obtain ⟨v7, q7, e7, l7, u7, h7⟩ := fm_ hL h6 0 31 (by omega) (by omega) (by omega)
 rw [e7]; simp only [Option.bind_some]
 obtain ⟨d, q8, e8, h8, i8⟩ := gk_ hL h7 v7 m hm
 rw [e8]; simp only [Option.bind_some]
 refine ⟨a, b, c, d, q8, rfl, h8, fun h => ?_⟩
 have k3 : 0 ≤ v3 ∧ v3 ≤ 9999 := by
  simp only [List.mem_cons, List.not_mem_nil, or_false] at m3
  omega
 rw [i2 h, i4 h, i6 h, i8 h]
 exact ⟨⟨l1, u1⟩, k3, ⟨l5, u5⟩, ⟨l7, u7⟩⟩
theorem ur_ (a b : List Int) (hl : a.length = b.length) (h : a.length ≤ 1000) : ∀ (d i k : Nat), i + d = a.length → d < k → (∀ j, j < i → a.getD j 0 = b.getD j 0) → ja_.l0 k a b (i : Int) = some (decide (a = b)) := by
 intro d
 induction d with
 | zero =>
  intro i k hi hk hz
  obtain ⟨k, rfl⟩ : ∃ m, k = m + 1 := ⟨k - 1, by omega⟩
  simp only [ja_.l0]
  rw [if_neg (by omega)]
  have : a = b := List.ext_getElem hl fun j h1 h2 => by
   have := hz j (by omega)
   rwa [List.getD_eq_getElem?_getD, List.getD_eq_getElem?_getD, List.getElem?_eq_getElem h1, List.getElem?_eq_getElem h2] at this
  rw [decide_eq_true this]
 | succ d ih =>
  intro i k hi hk hz
  obtain ⟨k, rfl⟩ : ∃ m, k = m + 1 := ⟨k - 1, by omega⟩
  have hs : wrap64 ((i : Int) + 1) = ((i + 1 : Nat) : Int) := by unfold wrap64; omega
  simp only [ja_.l0]
  rw [if_pos (by omega), if_pos (by omega), if_pos (by omega), bp_, bp_, hs]
  by_cases e : a.getD i 0 = b.getD i 0
  ·rw [if_pos e]
   refine ih (i + 1) k (by omega) (by omega) fun j hj => ?_
   rcases Nat.lt_or_ge j i with h | h
   ·exact hz j h
   ·rw [show j = i from by omega]; exact e
  ·rw [if_neg e, decide_eq_false (fun q => e (by rw [q]))]
theorem zq_ (a b : List Int) (h : a.length ≤ 1000) (k : Nat) (hk : 1001 ≤ k) : ja_.f k a b = some (decide (a = b)) := by
 unfold ja_.f
 by_cases hl : a.length = b.length
 ·rw [if_pos (by omega)]
  exact ur_ a b hl h a.length 0 k (by omega) (by omega) (fun j hj => by omega)
 ·rw [if_neg (by omega), decide_eq_false (fun q => hl (by rw [q]))]
instance (a b c d : Int) : Decidable (okL a b c d) := by unfold okL; infer_instance
theorem xh_ (x m : Int) : sa_.f x m = some (decide (0 ≤ x ∧ x ≤ m)) := by
 unfold sa_.f
 by_cases h : x ≥ 0
 ·rw [if_pos h]
  congr 1
  rw [decide_eq_decide]; omega
 ·rw [if_neg h, decide_eq_false (by omega)]
theorem mi_ (a b c d : Int) : na_.f a b c d = some (decide (okL a b c d)) := by
 unfold na_.f
 rw [xh_, xh_, xh_, xh_]
 simp only [Option.bind_some, decide_eq_true_eq]
 by_cases h1 : 0 ≤ a ∧ a ≤ 31
 ·rw [if_pos h1]
  by_cases h2 : 0 ≤ c ∧ c ≤ 31
  ·rw [if_pos h2]
   by_cases h3 : 0 ≤ d ∧ d ≤ 31
   ·rw [if_pos h3]
    congr 1
    rw [decide_eq_decide]; unfold okL; omega
   ·rw [if_neg h3]
    congr 1
    exact (decide_eq_false (by unfold okL; omega)).symm
  ·rw [if_neg h2]
   congr 1
   exact (decide_eq_false (by unfold okL; omega)).symm
 ·rw [if_neg h1]
  congr 1
  exact (decide_eq_false (by unfold okL; omega)).symm
theorem dm_ (x : Int) : offB x = true ↔ ¬ (0 ≤ x ∧ x ≤ 31) := by
 unfold offB
 rw [Bool.or_eq_true, decide_eq_true_eq, decide_eq_true_eq]; omega
theorem hl_ (a b c d : Int) : TA.wd_.f a b c d = some (decide (okL a b c d)) := by
 unfold TA.wd_.f vi_.f
 rw [if_pos (show ([a, c, d] : List Int).length ≤ 1000 by simp)]
 simp only [Option.bind_some]
 have ha : ([a, c, d] : List Int).any offB = true ↔ ¬ ((0 ≤ a ∧ a ≤ 31) ∧ (0 ≤ c ∧ c ≤ 31) ∧ (0 ≤ d ∧ d ≤ 31)) := by
  rw [List.any_cons, List.any_cons, List.any_cons, List.any_nil, Bool.or_false, Bool.or_eq_true, Bool.or_eq_true, dm_, dm_, dm_]
  omega
 by_cases h : ([a, c, d] : List Int).any offB = true
 ·rw [if_pos h, decide_eq_false (by have := ha.1 h; unfold okL; omega)]
 ·rw [if_neg h]
  have := Decidable.not_not.1 (fun q => h (ha.2 q))
  by_cases h4 : b ≥ 0
  ·rw [if_pos h4]
   congr 1
   rw [decide_eq_decide]; unfold okL; omega
  ·rw [if_neg h4, decide_eq_false (by unfold okL; omega)]
theorem pj_ (a b c d : Int) : xc_.f a b c d = some (decide (okL a b c d)) := hl_ a b c d
def symL (a b c d : Int) : List Int := [a, b / 1024, b / 32 % 32, b % 32, c, d]
def mm_ (a b c d : Int) : List Int × Int := if okL a b c d then (symL a b c d, 0) else ([], 2)
theorem dr_ {a b c d : Int} (h : okL a b c d) : ([a, wrap64 (Int.tdiv b 1024), Int.tmod (wrap64 (Int.tdiv b 32)) 32, Int.tmod b 32, c, d] : List Int) = symL a b c d := by
 unfold okL at h
 have e1 : Int.tdiv b 1024 = b / 1024 := Int.tdiv_eq_ediv_of_nonneg (by omega)
 have e2 : Int.tdiv b 32 = b / 32 := Int.tdiv_eq_ediv_of_nonneg (by omega)
 have e3 : Int.tmod b 32 = b % 32 := Int.tmod_eq_emod_of_nonneg (by omega)
 have e4 : Int.tmod (b / 32) 32 = b / 32 % 32 := Int.tmod_eq_emod_of_nonneg (by omega)
 rw [e1, e2, e3, show wrap64 (b / 1024) = b / 1024 from by unfold wrap64; omega, show wrap64 (b / 32) = b / 32 from by unfold wrap64; omega, e4]
 rfl
theorem li_ (a b c d : Int) : pb_.f a b c d = some (mm_ a b c d) := by
 unfold pb_.f mm_
 rw [mi_]
 simp only [Option.bind_some]
 by_cases h : okL a b c d
 ·rw [decide_eq_true h, if_pos rfl, if_pos h, dr_ h]
 ·rw [decide_eq_false h, if_neg (by decide), if_neg h]
theorem nm_ (a b c d : Int) : TA.kd_.f a b c d = some (mm_ a b c d) := by
 unfold TA.kd_.f mm_
 rw [hl_]
 simp only [Option.bind_some]
 by_cases h : okL a b c d
 ·rw [decide_eq_true h, if_pos rfl, if_pos h, dr_ h]
 ·rw [decide_eq_false h, if_neg (by decide), if_neg h]
theorem qi_ (a b c d : Int) : ud_.f a b c d = some (mm_ a b c d) := nm_ a b c d
theorem ph_ : za_.Pure := by
 intro l a1 a2 a3 a4 _ _ _ _ _ _ _
 obtain ⟨K, hK⟩ : ∃ K, K = 1300 := ⟨_, rfl⟩
 refine ⟨K, ?_⟩
 obtain ⟨L, e0, hL, hp⟩ := new_f l
 obtain ⟨a, b, c, d, q, e1, hq, _⟩ := vr_ hL hp 6 (by omega)
 have hl : ∀ a b c d, (mm_ a b c d).1.length ≤ 1000 := fun a b c d => by
  unfold mm_
  split
  ·show (symL a b c d).length ≤ 1000
   unfold symL; simp
  ·exact Nat.zero_le _
 unfold za_.f
 rw [e0]
 simp only [Option.bind_some]
 rw [e1]
 simp only [Option.bind_some]
 rw [qi_, li_]
 simp only [Option.bind_some]
 rw [qi_, li_]
 simp only [Option.bind_some]
 rw [zq_ _ _ (hl _ _ _ _) K (by omega), decide_eq_true rfl]
 simp only [Option.bind_some]
 rw [if_pos trivial, if_pos trivial, zq_ _ _ (hl _ _ _ _) K (by omega), decide_eq_true rfl]
 simp only [Option.bind_some]
 rw [if_pos trivial, if_pos trivial, pj_, mi_]
 simp only [Option.bind_some]
 rw [if_pos (beq_self_eq_true _), pj_, mi_]
 simp only [Option.bind_some]
 rw [if_pos (beq_self_eq_true _), or_]
 rfl
end Go.Proofs.YtpkhgapifnjbeaaDoor.Pure
end
section
namespace Go.Proofs.YtpkhgapifnjbeaaDoor.stripSymbols
open Go.ChangeShapes Go.WideShapes Go.ChangeAt Go.RowKit
open Go.ChangeMaps (open_string shut_string)
set_option linter.unusedVariables false
theorem own : ownKnob Tryd.prog.godebug = none := by kernel_rfl
theorem laidOut : laidOutB Tryd.prog = true := by kernel_rfl
def IsRow (k : IntKind) (w : World) (a : Option Addr) (len cap : Nat) (zs : List Int) : Prop :=
 (a = none ∧ len = 0 ∧ cap = 0 ∧ zs = []) ∨
 ∃ x, a = some x ∧ len ≤ cap ∧ cap ≤ maxLen ∧ zs.length = cap ∧ (∀ i, i < zs.length → w.cell? (x.add i) = some (.int k (zs.getD i 0))) ∧ ∀ n ∈ zs, (Lit.int k n).wf = true
set_option maxRecDepth 100000 in
theorem lifted (os : Os) (started : os.Started) (H : Type) (enc : TypeId × Value → H) :
  ReturnsInHanded {} Tryd.checked os 3 .any (fun w args => (Rows.stripSymbolsSpec.pre enc Tryd.prog Tryd.f3 [] false w args ∧ laidMetH Tryd.prog Rows.stripSymbolsRow.laid w) ∧ sizedMet enc Tryd.prog Tryd.f3 (OpenSpec.ofChange Rows.stripSymbolsSpec) false w args) (Rows.stripSymbolsSpec.post enc Tryd.prog Tryd.f3 false true false false) := by
 refine returnsInHanded_of_change_and (C := Tryd.checked) (X := (fun w _ => laidMetH Tryd.prog Rows.stripSymbolsRow.laid w)) (fun _ _ _ hh h => h.of_heap hh) own started (by kernel_rfl) Tryd.func3
  (ChangeSpec.witness_shaped (enc := enc) (C := Tryd.checked) (os := os) (X := (fun w _ => laidMetH Tryd.prog Rows.stripSymbolsRow.laid w)) false (World.laidAll Tryd.prog os Rows.stripSymbolsRow.laid) #[.slice none 0 0, .int .i64 0, .int .i64 0, .int .i64 0, .int .i64 0] 8 (World.laidAll_os _ _ _)
   (World.shaped_of_ZipB (by kernel_rfl) (by kernel_rfl)) (by kernel_rfl) (by kernel_rfl) (by kernel_rfl)
   (by rw [MakeChecks.laidMetH_plain _ _ _ (by kernel_rfl)]; exact laidMet_laidAll _ (by kernel_rfl) (by kernel_rfl))) ?_
 intro W base args ds gs before hval0 hW hcnd hsz0 hL _
 clear hL
 have hsz : (DataW.weightsEach Tryd.prog (Tryd.f3.params.toList ++ Rows.stripSymbolsSpec.plain.varTypes Tryd.prog) (ds ++ gs)).all (· ≤ reachBytes) = true := hsz0
 have hval : ∀ (j : Nat) t v, Tryd.f3.params[j]? = some t → args[j]? = some v → Value.okWide Tryd.prog W .any base t v := hval0
 have hW' := hW
 obtain ⟨p, q, hA0, hV, rfl, hfz, hnd⟩ := hW
 have hA : DataW.TrodAll enc Tryd.prog W 0 (fun _ => true) true Tryd.f3.params.toList args.toList ds p := hA0
 rw [Tryd.params3] at hA hval hsz
 obtain ⟨v0, vs0, d0, ds0, p0, q0, hargs, rfl, rfl, h0, r0⟩ := trodAll_cons hA
 obtain ⟨v1, vs1, d1, ds1, p1, q1, rfl, rfl, rfl, h1, r1⟩ := trodAll_cons r0
 obtain ⟨v2, vs2, d2, ds2, p2, q2, rfl, rfl, rfl, h2, r2⟩ := trodAll_cons r1
 obtain ⟨v3, vs3, d3, ds3, p3, q3, rfl, rfl, rfl, h3, r3⟩ := trodAll_cons r2
 obtain ⟨v4, vs4, d4, ds4, p4, q4, rfl, rfl, rfl, h4, r4⟩ := trodAll_cons r3
 obtain ⟨rfl, rfl, rfl⟩ := trodAll_nil r4
 obtain rfl : args = #[v0, v1, v2, v3, v4] := by cases args; simp_all
 obtain ⟨rfl, rfl⟩ := trodVars_none hV
 obtain ⟨a0, len0, cap0, rfl⟩ := okWide_slice Tryd.underlying22 (hval 0 22 v0 rfl rfl)
 have k0 := h0
 have lt0 : ∀ x ∈ p0, x.block < W.heap.size := by obtain ⟨m, hm⟩ := k0; exact DataW.trod_lt m _ _ _ hm
 obtain ⟨z0, w0⟩ : ∃ zs, IsRow .i64 W a0 len0 cap0 zs := by
  obtain ⟨fuel, hf⟩ := h0
  rcases open_ints Tryd.underlying22 Tryd.underlying3 (by kernel_rfl) hf with ⟨hcs, _⟩ | ⟨x, l, c, zs, hcs, _, hl, hm, hz, _, hcell, hwz⟩
  ·simp [Value.cells] at hcs
   obtain ⟨rfl, rfl, rfl⟩ := hcs
   exact ⟨[], .inl ⟨rfl, rfl, rfl, rfl⟩⟩
  ·simp [Value.cells] at hcs
   obtain ⟨rfl, rfl, rfl⟩ := hcs
   exact ⟨zs, .inr ⟨_, rfl, hl, hm, by simpa using hz, hcell, hwz⟩⟩
 have y0 : len0 * 8 ≤ 140737488351232 := Go.Proofs.YtpkhgapifnjbeaaDoorW.PrintWords.tn_ hsz (j := 0) (t := 22) rfl rfl Tryd.underlying22 Tryd.underlying3 (by kernel_rfl) (by kernel_rfl) h0
 obtain ⟨a1, rfl, rfl, rfl, w1⟩ := open_int Tryd.underlying3 (hval 1 3 v1 rfl rfl) h1
 obtain ⟨a2, rfl, rfl, rfl, w2⟩ := open_int Tryd.underlying3 (hval 2 3 v2 rfl rfl) h2
 obtain ⟨a3, rfl, rfl, rfl, w3⟩ := open_int Tryd.underlying3 (hval 3 3 v3 rfl rfl) h3
 obtain ⟨a4, rfl, rfl, rfl, w4⟩ := open_int Tryd.underlying3 (hval 4 3 v4 rfl rfl) h4
 clear hA0 hval0 hsz0 hsz
 refine (T.za_.walk Pure.ph_ a0 len0 cap0 z0 a1 a2 a3 a4 W w0 y0 w1 w2 w3 w4).mono fun e W' ⟨he, bel⟩ => ?_
 subst he
 exact ⟨_, rfl, _, _, _, [], _, [], hW', trodAll_mk1 (shut_bool Tryd.underlying4 _), (trodAll_cons_mk (Below.trod laidOut (by kernel_rfl) (of_decide_eq_true (by kernel_rfl)) k0 bel lt0) (trodAll_cons_mk (shut_int Tryd.underlying3 w1) (trodAll_cons_mk (shut_int Tryd.underlying3 w2) (trodAll_cons_mk (shut_int Tryd.underlying3 w3) (trodAll_cons_mk (shut_int Tryd.underlying3 w4) trodAll_mk0))))), rfl, bel.frame _, fun h => by cases h⟩
theorem over : Rows.stripSymbolsRow.holds Tryd.pinned (OpenSpec.ofChange Rows.stripSymbolsSpec) :=
 OpenClaim.holds_of_wide 3 Tryd.f3 rfl rfl rfl rfl rfl rfl rfl ⟨rfl, rfl, rfl, rfl, rfl⟩ rfl rfl rfl rfl rfl (by kernel_rfl) Tryd.func3 (by kernel_rfl)
  (of_decide_eq_true (by kernel_rfl)) (by unfold Func.isWrapper; first | (rw [if_pos (by decide +kernel)]; kernel_rfl) | (rw [if_neg (by decide +kernel)]; exact ⟨rfl, rfl⟩))
  (fun os started H enc _ => lifted os started H enc)
theorem card : Rows.StripSymbolsCardSaid :=
 Claim7.holds_tied_plain_at .later [] [.data, .pinned] true (true, "b58b7df395264557b4d0446b1454eeedfc2e93f7558f94a662d1089077da585f") false over (fun _ h => by cases h) (by kernel_rfl) (fun _ h => by cases h) stripSymbols_row_tie rfl ⟨rfl, rfl⟩ (by kernel_rfl) rfl
  (fun f fn hf hfn => by
   obtain rfl : f = 3 := Option.some.inj ((show Tryd.prog.funcNamed "awardingbody/awardingbodylaw19.StripSymbols" = some 3 by kernel_rfl).symm.trans hf) |>.symm
   obtain rfl : fn = Tryd.f3 := (Option.some.inj (Tryd.func3.symm.trans hfn)).symm
   exact ⟨by kernel_rfl, fun j t ht => by
    rw [Tryd.params3] at ht
    have hm : t ∈ [22, 3, 3, 3, 3] := by simpa using Array.mem_of_getElem? ht
    have hall : ([22, 3, 3, 3, 3].all fun u => !Tryd.prog.wantsStandIn u) = true := by kernel_rfl
    exact (show Tryd.prog.wantsStandIn t = false by simpa using List.all_eq_true.1 hall t hm)⟩)
  (by kernel_rfl)
end Go.Proofs.YtpkhgapifnjbeaaDoor.stripSymbols
namespace Go.Proofs.YtpkhgapifnjbeaaDoor
theorem stripSymbols_card_holds : Rows.StripSymbolsCardSaid := stripSymbols.card
end Go.Proofs.YtpkhgapifnjbeaaDoor
end
