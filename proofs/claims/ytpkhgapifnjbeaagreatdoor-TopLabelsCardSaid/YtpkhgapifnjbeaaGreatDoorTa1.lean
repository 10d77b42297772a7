/- Put together by pack2.py. -/
import Derived.Test.YtpkhgapifnjbeaaGreatDoorTa0
set_option linter.unusedVariables false
set_option linter.unusedSimpArgs false
section
namespace Go.Proofs.YtpkhgapifnjbeaaGreatDoor.TL
open RowKit G Rs Zw.PrintWords Zw.PrintLast Zw.PrintMore
attribute [local go_sem] pd_ rd_ yd_ zd_ dd_ ed_ qd_ sd_
mutual
def ka_.l0 : Nat → Int → Int → List Int → Int → Int → List (S65) → List (S60) → Option (Int × (List (S65)) × (List (S60)) × (List (S58)) × Int)
 | 0, _, _, _, _, _, _, _ => none
 | k + 1, x1, x6, x1000, x1001, x211000, x211001, x211002 => (ob_.f x1000 x1001 1 2).bind fun bt211 => (if x6 < bt211.1 then ((eb_.f k x1000 bt211.2 x211000 x6).bind fun bt213 => ((ya_.f k bt213.1 bt213.2.1 bt213.2.2.1).bind fun bt220 => ((some (([(⟨bt213.1, bt213.2.1, bt213.2.2.1⟩ : S65)] : List (S65)) : List (S65))).bind fun y225 => (if x211001.length + y225.length < 3518437208883 then ((some (([(⟨bt220.1⟩ : S60)] : List (S60)) : List (S60))).bind fun y231 => (if x211002.length + y231.length < 5864062014805 then (ka_.l0 k x1 (wrap64 (x6 + 1)) x1000 bt213.2.2.2 x211000 (x211001 ++ y225) (x211002 ++ y231)) else (none))) else (none))))) else (ka_.l1 k x1 0 x1000 bt211.2 x211000 x211001 x211002 ([] : List (S58))))
def ka_.l1 : Nat → Int → Int → List Int → Int → Int → List (S65) → List (S60) → List (S58) → Option (Int × (List (S65)) × (List (S60)) × (List (S58)) × Int)
 | 0, _, _, _, _, _, _, _, _ => none
 | k + 1, x1, x10, x1000, x1001, x211000, x211001, x211002, x211003 => if x10 < 4 then ((oa_.f x1000 x1001 4).bind fun bt237 => (if bt237.1 > 0 then ((ob_.f x1000 bt237.2 1 2).bind fun bt239 => ((oa_.f x1000 bt239.2 (x211001.length : Int)).bind fun bt241 => ((some (([(⟨x10, bt239.1, bt241.1⟩ : S58)] : List (S58)) : List (S58))).bind fun y243 => (if x211003.length + y243.length < 5864062014805 then (ka_.l1 k x1 (wrap64 (x10 + 1)) x1000 bt241.2 x211000 x211001 x211002 (x211003 ++ y243)) else (none))))) else (ka_.l1 k x1 (wrap64 (x10 + 1)) x1000 bt237.2 x211000 x211001 x211002 x211003))) else (if x1 > 0 then ((oe_.f x1000 x1001 x1).bind fun bt249 => (ka_.j2 k bt249.1 x1000 bt249.2 x211000 x211001 x211002 x211003)) else (ka_.j2 k false x1000 x1001 x211000 x211001 x211002 x211003))
def ka_.j2 : Nat → Bool → List Int → Int → Int → List (S65) → List (S60) → List (S58) → Option (Int × (List (S65)) × (List (S60)) × (List (S58)) × Int)
 | 0, _, _, _, _, _, _, _ => none
 | k + 1, x69, x1000, x1001, x211000, x211001, x211002, x211003 => if x69 = true then (none) else (some (x211000, x211001, x211002, x211003, x1001))
end
def ka_.f (k : Nat) (s0_0 : List Int) (s0_1 : Int) (a1 : Int) : Option (Int × (List (S65)) × (List (S60)) × (List (S58)) × Int) := (oa_.f s0_0 s0_1 2).bind fun bt208 => (ka_.l0 k a1 0 s0_0 bt208.2 bt208.1 ([] : List (S65)) ([] : List (S60)))
theorem ka_.nd_ : ∀ k, (∀ y0 y1 y2 y3 y4 y5 y6, LeO (ka_.l0 k y0 y1 y2 y3 y4 y5 y6) (ka_.l0 (k + 1) y0 y1 y2 y3 y4 y5 y6)) ∧ (∀ y0 y1 y2 y3 y4 y5 y6 y7, LeO (ka_.l1 k y0 y1 y2 y3 y4 y5 y6 y7) (ka_.l1 (k + 1) y0 y1 y2 y3 y4 y5 y6 y7)) ∧ (∀ y0 y1 y2 y3 y4 y5 y6, LeO (ka_.j2 k y0 y1 y2 y3 y4 y5 y6) (ka_.j2 (k + 1) y0 y1 y2 y3 y4 y5 y6))
 | 0 => ⟨fun _ _ _ _ _ _ _ r h => by simp [ka_.l0] at h, fun _ _ _ _ _ _ _ _ r h => by simp [ka_.l1] at h, fun _ _ _ _ _ _ _ r h => by simp [ka_.j2] at h⟩
 | k + 1 => by
  obtain ⟨ih0, ih1, ih2⟩ := ka_.nd_ k
  refine ⟨?_, ?_, ?_⟩
  ·intro y0 y1 y2 y3 y4 y5 y6
   unfold ka_.l0
   have m0 := eb_.mono
   have m1 := ya_.mono
   exact Qr
  ·intro y0 y1 y2 y3 y4 y5 y6 y7
   unfold ka_.l1
   have m0 := eb_.mono
   have m1 := ya_.mono
   exact Qr
  intro y0 y1 y2 y3 y4 y5 y6
  unfold ka_.j2
  have m0 := eb_.mono
  have m1 := ya_.mono
  exact Qr
theorem ka_.mono : ∀ a0 a1 a2 k, LeO (ka_.f k a0 a1 a2) (ka_.f (k + 1) a0 a1 a2) := by
 intro a0 a1 a2 k
 obtain ⟨ih0, ih1, ih2⟩ := ka_.nd_ k
 unfold ka_.f
 have m0 := eb_.mono
 have m1 := ya_.mono
 exact Qr
def ka_.T7 : Bool × List (List Nat × List Nat) := (true, [([], []), ([0], [0]), ([], []), ([2], [2]), ([1, 3], [1, 3]), ([], []), ([5], [5]), ([], []), ([7], [7]), ([6, 8, 4], [6, 8]), ([0, 1, 2, 3, 4, 5, 6], []), ([10, 4, 9, 0, 1, 2, 3, 4, 5, 6], [4, 10]), ([0, 1, 2, 3, 4, 5, 6, 7, 8, 9, 10, 11], []), ([12, 9, 11, 0, 1, 2, 3, 4, 5, 6, 7, 8, 9, 10, 11], [9, 12])])
def ka_.B7 : List Nat := [0, 1, 0, 4, 15, 0, 32, 0, 128, 511, 127, 2047, 4095, 8191]
theorem ka_.tab7 : rtab .any (opsOf Tryz.f10 7) = ka_.T7 := by kernel_rfl
theorem ka_.bits7 : ni_ ka_.T7.2 ka_.B7 = true := by kernel_rfl
def ka_.T12 : Bool × List (List Nat × List Nat) := (true, [([], []), ([0], [0]), ([], []), ([], []), ([3], [3]), ([], []), ([], []), ([6], [6]), ([7], [7]), ([5, 8, 4], [5, 8]), ([2, 4, 9], [2, 4, 9]), ([10], [10]), ([1, 11, 9], [1, 11]), ([0, 1, 2, 3, 4, 5, 6, 7, 8, 9, 10, 11, 12], []), ([13, 12, 12, 0, 1, 2, 3, 4, 5, 6, 7, 8, 9, 10, 11, 12], [12, 13])])
def ka_.B12 : List Nat := [0, 1, 0, 0, 8, 0, 0, 64, 192, 504, 1020, 2044, 4095, 8191, 16383]
theorem ka_.tab12 : rtab .any (opsOf Tryz.f10 12) = ka_.T12 := by kernel_rfl
theorem ka_.bits12 : ni_ ka_.T12.2 ka_.B12 = true := by kernel_rfl
def ka_.T21 : Bool × List (List Nat × List Nat) := (true, [([], []), ([0], [0]), ([], []), ([], []), ([2, 3], [2, 3]), ([], []), ([], []), ([5, 6, 4], [5, 6]), ([], []), ([8, 7], [8]), ([4, 7, 9], [4, 7, 9]), ([10], [10]), ([1, 11, 9], [1, 11]), ([0, 1, 2, 3, 4, 5, 6, 7, 8, 9, 10, 11, 12], []), ([13, 12, 12, 0, 1, 2, 3, 4, 5, 6, 7, 8, 9, 10, 11, 12], [12, 13])])
def ka_.B21 : List Nat := [0, 1, 0, 0, 12, 0, 0, 124, 0, 508, 1020, 2044, 4095, 8191, 16383]
theorem ka_.tab21 : rtab .any (opsOf Tryz.f10 21) = ka_.T21 := by kernel_rfl
theorem ka_.bits21 : ni_ ka_.T21.2 ka_.B21 = true := by kernel_rfl
set_option maxHeartbeats 8000000 in
set_option maxRecDepth 100000 in
theorem ka_.calls (k : Nat) (g : Nat) (s0_0 : List Int) (s0_1 : Int) (a1 : Int) (r1 : Int) (r2 : List (S65)) (r3 : List (S60)) (r4 : List (S58)) (r5 : Int) (w0 w : World) (hI : ga_ w0 w g s0_0 s0_1) (hB : Below w0.heap.size w0 w) (h : ka_.f k s0_0 s0_1 a1 = some (r1, r2, r3, r4, r5)) :
  Calls Tryz.prog 10 #[.pointer (some ⟨g, 0, none⟩), .int .i64 a1] w fun e w' => ∃ v1_ v2_ v3_ : Value, e = .returned (.agg #[.int .i64 r1, v1_, v2_, v3_]) ∧ Kd.N k65 65 w' w.heap.size (fun k_ => (w.heap.size ≤ k_) ∧ some k_ ≠ (v2_ : Value).ownBlock ∧ some k_ ≠ (v3_ : Value).ownBlock) v1_ r2 ∧ Kd.N k60 60 w' w.heap.size (fun k_ => (w.heap.size ≤ k_) ∧ some k_ ≠ (v1_ : Value).ownBlock ∧ some k_ ≠ (v3_ : Value).ownBlock) v2_ r3 ∧ Kd.R k58 58 w' w.heap.size (fun k_ => (w.heap.size ≤ k_)) v3_ r4 ∧ ga_ w0 w' g s0_0 r5 ∧ Below w0.heap.size w0 w' ∧ ra_ w w' g none := by
 have hu31 := Tryz.underlying31
 have hu65 := Tryz.underlying65
 have hu60 := Tryz.underlying60
 have hu58 := Tryz.underlying58
 have HI0 := ba_.mk hI
 have HK := ba_.mk (ra_.refl w g none)
 have HL := ba_.mk hB.size
 clear hI
 have HW0 := ba_.mk hB.size
 have HB := ba_.mk hB
 clear hB
 have H : ((oa_.f s0_0 s0_1 2).bind fun bt208 => (ka_.l0 k a1 0 s0_0 bt208.2 bt208.1 ([] : List (S65)) ([] : List (S60)))) = some (r1, r2, r3, r4, r5) := h
 clear h
 obtain ⟨⟨t208, t209⟩, A3, H⟩ := Qo H
 try dsimp only at H
 have H' := ba_.mk H
 clear H
 go_enter Tryz.func10, Tryz.ntmps10
 go_wp2_with (first | ((with_reducible refine ld_ (N := 4) rfl ?_); refine de_ ?hg (N := 4) ?hd (cs := #[.int .i64 0, .slice none 0 0, .slice none 0 0, .slice none 0 0]) (t := 31) ?hr ?_; (case hd => rfl); (case hg => rfl); (case hr => exact Qt); intro gb207 hg w4 hbox hb; have n0_ := ba_.mk (ga_.below Q2 hb); have n1_ := ba_.mk (ra_.trans Qw (ra_.sf_ hb g none) (.inl rfl)); have n2_ := ba_.mk (hb_ Q3 hb); have n3_ := ba_.mk (hbox); have n4_ := ba_.mk ((by rw [hg]; exact (kd_ (w := w) (g := g) (row := none) Qw) : w.heap.size ≤ gb207)); have n5_ := ba_.mk ((Nat.le_trans HW0.out (by rw [hg]; exact (kd_ (w := w) (g := g) (row := none) Qw) : w.heap.size ≤ gb207) : w0.heap.size ≤ gb207)); have n6_ := ba_.mk ((by rw [hg]; exact Nat.ne_of_lt (ga_.lt (show ga_ w0 _ g s0_0 s0_1 from by repeat (first | (with_reducible first | exact HI0.out | apply ga_.alloc | apply ga_.drewN | apply ga_.drew | apply ga_.tc_) | exact HI0.out))) : g ≠ gb207)); have n7_ := ba_.mk ((by rw [hg]; exact Nat.ne_of_gt (ga_.lt (show ga_ w0 _ g s0_0 s0_1 from by repeat (first | (with_reducible first | exact HI0.out | apply ga_.alloc | apply ga_.drewN | apply ga_.drew | apply ga_.tc_) | exact HI0.out))) : gb207 ≠ g)); clear HI0; clear HK; clear HB; have HI0 := n0_; have HK := n1_; have HB := n2_; have BK207 := n3_; have GW207 := n4_; have GE207 := n5_; have NB0_207 := n6_; have NB207_0 := n7_; clear n0_ n1_ n2_ n3_ n4_ n5_ n6_ n7_; clear hb hbox hg) | ((with_reducible refine va_ (f := 30) rfl ?_); refine lc_ (some 12) rfl rfl Tryz.func30 Qb rfl #[.pointer (some ⟨g, 0, none⟩), .int .i64 2] rfl Qm ?_; (with_reducible refine (oa_.calls g s0_0 s0_1 2 t208 t209 w0 _ ?side1 ?side2 A3.out).mono ?_); (case side1 => repeat (first | (with_reducible first | exact HI0.out | apply ga_.alloc | apply ga_.drewN | apply ga_.drew | apply ga_.tc_ | refine ga_.far ?_ NB0_207.out _) | exact HI0.out)); (case side2 => repeat (first | (with_reducible first | exact HB.out | apply da_ | apply aa_ | apply ca_ | refine fa_ ?_ (ga_.ge HI0.out) | refine fa_ ?_ GE207.out) | exact HB.out)); rintro e w5 ⟨rfl, hi, hb, hk⟩; refine ⟨_, rfl, ?_⟩; have n0_ := ba_.mk (ra_.blk hk (g' := gb207) (o := .cells #[.int .i64 0, .slice none 0 0, .slice none 0 0, .slice none 0 0] 31 (0, 0)) (Qf BK207.out) NB207_0.out Qj); have n1_ := ba_.mk (ra_.trans Qac hk (.inl rfl)); have n2_ := ba_.mk (hb); have n3_ := ba_.mk (hi); clear BK207; clear HK; clear HB; clear HI0; have BK207 := n0_; have HK := n1_; have HB := n2_; have HI0 := n3_; clear n0_ n1_ n2_ n3_; (try clear hb); (try clear hb2); (try clear hk); (try clear hi)) | ((with_reducible refine ld_ (N := 5) rfl ?_); refine de_ ?hg (N := 5) ?hd (cs := #[.int .i64 0, .slice none 0 0, .slice none 0 0, .slice none 0 0]) (t := 31) ?hr ?_; (case hd => rfl); (case hg => rfl); (case hr => exact Qt); intro gb210 hg w6 hbox hb; have n0_ := ba_.mk (ga_.below (by repeat (first | (with_reducible first | exact HI0.out | apply ga_.alloc | apply ga_.drewN | apply ga_.drew | apply ga_.tc_ | refine ga_.far ?_ NB0_207.out _) | exact HI0.out)) hb); have n1_ := ba_.mk (pc_ (g := gb207) (o := .cells #[.int .i64 0, .slice none 0 0, .slice none 0 0, .slice none 0 0] 31 (0, 0)) (Qf BK207.out) hb); have n2_ := ba_.mk (ra_.trans Qac (ra_.sf_ hb g none) (.inl rfl)); have n3_ := ba_.mk (hb_ (by repeat (first | (with_reducible first | exact HB.out | apply da_ | apply aa_ | apply ca_ | refine fa_ ?_ (ga_.ge HI0.out) | refine fa_ ?_ GE207.out) | exact HB.out)) hb); have n4_ := ba_.mk (hbox); have n5_ := ba_.mk ((by rw [hg]; exact (kd_ (w := w) (g := g) (row := none) Qac) : w.heap.size ≤ gb210)); have n6_ := ba_.mk ((Nat.le_trans HW0.out (by rw [hg]; exact (kd_ (w := w) (g := g) (row := none) Qac) : w.heap.size ≤ gb210) : w0.heap.size ≤ gb210)); have n7_ := ba_.mk ((by rw [hg]; exact Nat.ne_of_lt (bg_ (g := gb207) (o := .cells #[.int .i64 0, .slice none 0 0, .slice none 0 0, .slice none 0 0] 31 (0, 0)) (Qf BK207.out)) : gb207 ≠ gb210)); have n8_ := ba_.mk ((by rw [hg]; exact Nat.ne_of_gt (bg_ (g := gb207) (o := .cells #[.int .i64 0, .slice none 0 0, .slice none 0 0, .slice none 0 0] 31 (0, 0)) (Qf BK207.out)) : gb210 ≠ gb207)); have n9_ := ba_.mk ((by rw [hg]; exact Nat.ne_of_lt (ga_.lt (show ga_ w0 _ g s0_0 t209 from by repeat (first | (with_reducible first | exact HI0.out | apply ga_.alloc | apply ga_.drewN | apply ga_.drew | apply ga_.tc_ | refine ga_.far ?_ NB0_207.out _) | exact HI0.out))) : g ≠ gb210)); have n10_ := ba_.mk ((by rw [hg]; exact Nat.ne_of_gt (ga_.lt (show ga_ w0 _ g s0_0 t209 from by repeat (first | (with_reducible first | exact HI0.out | apply ga_.alloc | apply ga_.drewN | apply ga_.drew | apply ga_.tc_ | refine ga_.far ?_ NB0_207.out _) | exact HI0.out))) : gb210 ≠ g)); clear HI0; clear BK207; clear HK; clear HB; have HI0 := n0_; have BK207 := n1_; have HK := n2_; have HB := n3_; have BK210 := n4_; have GW210 := n5_; have GE210 := n6_; have NB207_210 := n7_; have NB210_207 := n8_; have NB0_210 := n9_; have NB210_0 := n10_; clear n0_ n1_ n2_ n3_ n4_ n5_ n6_ n7_ n8_ n9_ n10_; clear hb hbox hg; have hnb7 := NB210_207.out; have hnc7 := NB207_210.out; have hnb8 := NB210_0.out; have hnc8 := NB0_210.out; have hcz9_0 : w6.cell? ⟨gb210, 0, none⟩ = some (.int .i64 0) := (la_ BK210.out 0).trans rfl; have hcz9_1 : w6.cell? ⟨gb210, 1, none⟩ = some (.slice none 0 0) := (la_ BK210.out 1).trans rfl; have hcz9_2 : w6.cell? ⟨gb210, 2, none⟩ = some (.slice none 0 0) := (la_ BK210.out 2).trans rfl; have hcz9_3 : w6.cell? ⟨gb210, 3, none⟩ = some (.slice none 0 0) := (la_ BK210.out 3).trans rfl; have hfz9_0 := ja_ BK210.out 0; have hfz9_1 := ja_ BK210.out 1; have hfz9_2 := ja_ BK210.out 2; have hfz9_3 := ja_ BK210.out 3))
 go_loopg [6] k (fun kq v6 w' => ∃ (x6_1 : Int) (x1001_1 : Int) (x211001_1 : List (S65)) (x211002_1 : List (S60)) (u211001 : Value) (u211002 : Value), v6 = .int .i64 x6_1 ∧ ba_ (ka_.l0 kq a1 x6_1 s0_0 x1001_1 t208 x211001_1 x211002_1 = some (r1, r2, r3, r4, r5)) ∧ ba_ (kq ≤ k) ∧ ba_ (Kd.N k65 65 w' w.heap.size (fun k_ => (w.heap.size ≤ k_) ∧ some k_ ≠ (u211002 : Value).ownBlock ∧ k_ ≠ gb207 ∧ k_ ≠ gb210 ∧ k_ ≠ g) u211001 x211001_1) ∧ ba_ (Kd.N k60 60 w' w.heap.size (fun k_ => (w.heap.size ≤ k_) ∧ some k_ ≠ (u211001 : Value).ownBlock ∧ k_ ≠ gb207 ∧ k_ ≠ gb210 ∧ k_ ≠ g) u211002 x211002_1) ∧ ba_ (w'.heap[gb207]? = some (.cells #[.int .i64 0, (.slice none 0 0), (.slice none 0 0), (.slice none 0 0)] 31 (0, 0))) ∧ ba_ (w'.heap[gb210]? = some (.cells #[.int .i64 t208, u211001, u211002, (.slice none 0 0)] 31 (0, 0))) ∧ ba_ (ga_ w0 w' g s0_0 x1001_1) ∧ ba_ (ra_ w w' g none) ∧ ba_ (Below w0.heap.size w0 w'))
 case atStart => exact ⟨(0), (t209), (([] : List (S65))), (([] : List (S60))), (.slice none 0 0), (.slice none 0 0), Ql, H', ⟨Nat.le_refl _⟩, ⟨Yo⟩, ⟨Q9⟩, ⟨by (with_reducible repeat (first | refine ia_ ?_ _ | refine ma_ ?_ | refine ha_ ?_ _)); refine ie_ ?_ NB207_210.out _; (with_reducible repeat (first | refine ia_ ?_ _ | refine ma_ ?_ | refine ha_ ?_ _)); refine ie_ ?_ NB207_210.out _; (with_reducible repeat (first | refine ia_ ?_ _ | refine ma_ ?_ | refine ha_ ?_ _)); refine ie_ ?_ NB207_210.out _; (with_reducible repeat (first | refine ia_ ?_ _ | refine ma_ ?_ | refine ha_ ?_ _)); refine ie_ ?_ NB207_210.out _; (with_reducible repeat (first | refine ia_ ?_ _ | refine ma_ ?_ | refine ha_ ?_ _)); exact BK207.out⟩, ⟨by (with_reducible repeat (first | refine ia_ ?_ _ | refine ma_ ?_ | refine ha_ ?_ _)); refine sc_ (cs := #[.int .i64 t208, .slice none 0 0, .slice none 0 0, .slice none 0 0]) ?_ 3 _ rfl; (with_reducible repeat (first | refine ia_ ?_ _ | refine ma_ ?_ | refine ha_ ?_ _)); refine sc_ (cs := #[.int .i64 t208, .slice none 0 0, .slice none 0 0, .slice none 0 0]) ?_ 2 _ rfl; (with_reducible repeat (first | refine ia_ ?_ _ | refine ma_ ?_ | refine ha_ ?_ _)); refine sc_ (cs := #[.int .i64 t208, .slice none 0 0, .slice none 0 0, .slice none 0 0]) ?_ 1 _ rfl; (with_reducible repeat (first | refine ia_ ?_ _ | refine ma_ ?_ | refine ha_ ?_ _)); refine sc_ (cs := #[.int .i64 0, .slice none 0 0, .slice none 0 0, .slice none 0 0]) ?_ 0 _ rfl; (with_reducible repeat (first | refine ia_ ?_ _ | refine ma_ ?_ | refine ha_ ?_ _)); exact BK210.out⟩, ⟨Xr⟩, ⟨Q1⟩, ⟨Xs⟩⟩
 case round =>
  clear H'
  try clear c1
  try clear p2
  try clear c3
  try clear c7
  try clear c8
  try clear hcz9_0
  try clear hcz9_1
  try clear hcz9_2
  try clear hcz9_3
  try clear hfz9_0
  try clear hfz9_1
  try clear hfz9_2
  try clear hfz9_3
  obtain ⟨x6_1, x1001_1, x211001_1, x211002_1, u211001, u211002, rfl, HA, HK1, HO_211001, HO_211002, BK207, BK210, HI0, HK, HB⟩ := hrel
  cases gk with
  | zero => exact absurd HA.out (by simp [ka_.l0])
  | succ k1 =>
   have H := HA.out
   clear HA
   simp only [ka_.l0] at H
   obtain ⟨⟨t211, t212⟩, A10, H⟩ := Qo H
   try dsimp only at H
   by_cases c11 : x6_1 < t211
   rotate_left
   ·rw [if_neg c11] at H
    have c11b0 := decide_eq_false c11
    clear c11
    have H' := ba_.mk H
    clear H
    go_wp2_with (first | ((with_reducible refine va_ (f := 31) rfl ?_); refine lc_ (some 16) rfl rfl Tryz.func31 Qb rfl #[.pointer (some ⟨g, 0, none⟩), .int .i64 1, .int .i64 2] rfl Qm ?_; (with_reducible refine (ob_.calls g s0_0 x1001_1 1 2 t211 t212 w0 _ ?side1 ?side2 A10.out).mono ?_); (case side1 => exact Xw); (case side2 => exact Xx); rintro e w52 ⟨rfl, hi, hb, hk⟩; refine ⟨_, rfl, ?_⟩; have n0_ := ba_.mk (Kd.yc_ (Kd.qi_ (Kd.yc_ (ok := fun k_ => (((w.heap.size ≤ k_)) ∧ (some k_ ≠ (u211002 : Value).ownBlock ∧ (k_ ≠ gb207 ∧ (k_ ≠ gb210 ∧ k_ ≠ g))))) (Qp HO_211001.out) (fun k_ hk_ => (⟨hk_, hk_.2.2.2.2⟩ : _ ∧ k_ ≠ g))) hk (fun _ h => h.2)) (fun _ h => h.1)); have n1_ := ba_.mk (Kd.yc_ (Kd.qi_ (Kd.yc_ (ok := fun k_ => (((w.heap.size ≤ k_)) ∧ (some k_ ≠ (u211001 : Value).ownBlock ∧ (k_ ≠ gb207 ∧ (k_ ≠ gb210 ∧ k_ ≠ g))))) (Qp HO_211002.out) (fun k_ hk_ => (⟨hk_, hk_.2.2.2.2⟩ : _ ∧ k_ ≠ g))) hk (fun _ h => h.2)) (fun _ h => h.1)); have n2_ := ba_.mk (ra_.blk hk (g' := gb207) (o := .cells #[.int .i64 0, .slice none 0 0, .slice none 0 0, .slice none 0 0] 31 (0, 0)) (Qf BK207.out) NB207_0.out Qj); have n3_ := ba_.mk (ra_.blk hk (g' := gb210) (o := .cells #[.int .i64 t208, u211001, u211002, .slice none 0 0] 31 (0, 0)) (Qf BK210.out) NB210_0.out Qj); have n4_ := ba_.mk (ra_.trans Q1 hk (.inl rfl)); have n5_ := ba_.mk (hb); have n6_ := ba_.mk (hi); clear HO_211001; clear HO_211002; clear BK207; clear BK210; clear HK; clear HB; clear HI0; have HO_211001 := n0_; have HO_211002 := n1_; have BK207 := n2_; have BK210 := n3_; have HK := n4_; have HB := n5_; have HI0 := n6_; clear n0_ n1_ n2_ n3_ n4_ n5_ n6_; (try clear hb); (try clear hb2); (try clear hk); (try clear hi)))
    go_loopg [10] k1 (fun kq v10 w' => ∃ (x10_2 : Int) (x1001_2 : Int) (x211003_2 : List (S58)) (u211003 : Value), v10 = .int .i64 x10_2 ∧ ba_ (ka_.l1 kq a1 x10_2 s0_0 x1001_2 t208 x211001_1 x211002_1 x211003_2 = some (r1, r2, r3, r4, r5)) ∧ ba_ (kq ≤ k1) ∧ ba_ (Kd.N k65 65 w' w.heap.size (fun k_ => (w.heap.size ≤ k_) ∧ some k_ ≠ (u211002 : Value).ownBlock ∧ some k_ ≠ (u211003 : Value).ownBlock ∧ k_ ≠ gb207 ∧ k_ ≠ gb210 ∧ k_ ≠ g) u211001 x211001_1) ∧ ba_ (Kd.N k60 60 w' w.heap.size (fun k_ => (w.heap.size ≤ k_) ∧ some k_ ≠ (u211001 : Value).ownBlock ∧ some k_ ≠ (u211003 : Value).ownBlock ∧ k_ ≠ gb207 ∧ k_ ≠ gb210 ∧ k_ ≠ g) u211002 x211002_1) ∧ ba_ (Kd.R k58 58 w' w.heap.size (fun k_ => (w.heap.size ≤ k_)) u211003 x211003_2) ∧ ba_ (w'.heap[gb207]? = some (.cells #[.int .i64 0, (.slice none 0 0), (.slice none 0 0), (.slice none 0 0)] 31 (0, 0))) ∧ ba_ (w'.heap[gb210]? = some (.cells #[.int .i64 t208, u211001, u211002, u211003] 31 (0, 0))) ∧ ba_ (ga_ w0 w' g s0_0 x1001_2) ∧ ba_ (ra_ w w' g none) ∧ ba_ (Below w0.heap.size w0 w'))
    case atStart => exact ⟨(0), (t212), (([] : List (S58))), (.slice none 0 0), Ql, H', ⟨Nat.le_refl _⟩, ⟨by (with_reducible repeat (first | apply Kd.cc_ | apply Kd.dc_ | apply Kd.oc_)); exact Kd.yc_ HO_211001.out (fun _ hk => ⟨hk.1, ⟨hk.2.1, ⟨Q6, ⟨hk.2.2.1, ⟨hk.2.2.2.1, hk.2.2.2.2⟩⟩⟩⟩⟩)⟩, ⟨by (with_reducible repeat (first | apply Kd.cc_ | apply Kd.dc_ | apply Kd.oc_)); exact Kd.yc_ HO_211002.out (fun _ hk => ⟨hk.1, ⟨hk.2.1, ⟨Q6, ⟨hk.2.2.1, ⟨hk.2.2.2.1, hk.2.2.2.2⟩⟩⟩⟩⟩)⟩, ⟨Q9⟩, ⟨Qad⟩, ⟨Qae⟩, ⟨Xr⟩, ⟨Q1⟩, ⟨Xs⟩⟩
    case round =>
     clear H'
     try clear c1
     try clear p2
     try clear c3
     try clear p6
     try clear c11
     try clear c11b0
     try clear c14
     try clear c15
     try clear c31
     obtain ⟨x10_2, x1001_2, x211003_2, u211003, rfl, HA, HK2, HO_211001, HO_211002, HO_211003, BK207, BK210, HI0, HK, HB⟩ := hrel
     cases gk with
     | zero => exact absurd HA.out (by simp [ka_.l1])
     | succ k2 =>
      have H := HA.out
      clear HA
      simp only [ka_.l1] at H
      by_cases c53 : x10_2 < 4
      rotate_left
      ·rw [if_neg c53] at H
       have c53b0 := decide_eq_false c53
       clear c53
       have HC71 := ba_.mk H
       clear H
       go_upto_region 13 with (fail)
       go_cut [69] (fun v69 wc => ∃ (kq : Nat) (x69_70 : Bool) (x1001_70 : Int), v69 = .bool x69_70 ∧ ba_ (ka_.j2 kq x69_70 s0_0 x1001_70 t208 x211001_1 x211002_1 x211003_2 = some (r1, r2, r3, r4, r5)) ∧ ba_ (kq ≤ k2) ∧ ba_ (Kd.N k65 65 wc w.heap.size (fun k_ => (w.heap.size ≤ k_) ∧ some k_ ≠ (u211002 : Value).ownBlock ∧ some k_ ≠ (u211003 : Value).ownBlock ∧ k_ ≠ gb207 ∧ k_ ≠ gb210 ∧ k_ ≠ g) u211001 x211001_1) ∧ ba_ (Kd.N k60 60 wc w.heap.size (fun k_ => (w.heap.size ≤ k_) ∧ some k_ ≠ (u211001 : Value).ownBlock ∧ some k_ ≠ (u211003 : Value).ownBlock ∧ k_ ≠ gb207 ∧ k_ ≠ gb210 ∧ k_ ≠ g) u211002 x211002_1) ∧ ba_ (Kd.R k58 58 wc w.heap.size (fun k_ => (w.heap.size ≤ k_)) u211003 x211003_2) ∧ ba_ (wc.heap[gb207]? = some (.cells #[.int .i64 0, (.slice none 0 0), (.slice none 0 0), (.slice none 0 0)] 31 (0, 0))) ∧ ba_ (wc.heap[gb210]? = some (.cells #[.int .i64 t208, u211001, u211002, u211003] 31 (0, 0))) ∧ ba_ (ga_ w0 wc g s0_0 x1001_70) ∧ ba_ (ra_ w wc g none) ∧ ba_ (Below w0.heap.size w0 wc))
       case first =>
        have H := HC71.out
        clear HC71
        by_cases c72 : a1 > 0
        rotate_left
        ·rw [if_neg c72] at H
         have c72b0 : decide (0 < a1) = false := decide_eq_false c72
         clear c72
         (first | rw [c72b0] | (simp only [yb_, ac_]; rw [c72b0]) | skip)
         have H' := ba_.mk H
         clear H
         go_wp2
         go_meet
         case rel => exact ⟨_, (false), (x1001_2), Ql, H', ⟨by have := HK1.out; have := HK2.out; first | omega | exact Nat.le_refl _⟩, ⟨by (with_reducible repeat (first | apply Kd.cc_ | apply Kd.dc_ | apply Kd.oc_)); exact HO_211001.out⟩, ⟨by (with_reducible repeat (first | apply Kd.cc_ | apply Kd.dc_ | apply Kd.oc_)); exact HO_211002.out⟩, ⟨by (with_reducible repeat (first | apply Kd.bb_ | apply Kd.cb_ | apply Kd.sb_)); exact HO_211003.out⟩, ⟨Qad⟩, ⟨Qae⟩, ⟨Xr⟩, ⟨Q1⟩, ⟨Xs⟩⟩
        rw [if_pos c72] at H
        have c72b0 : decide (0 < a1) = true := decide_eq_true c72
        clear c72
        (first | rw [c72b0] | (simp only [yb_, ac_]; rw [c72b0]) | skip)
        obtain ⟨⟨t249, t250⟩, A73, H⟩ := Qo H
        try dsimp only at H
        have H' := ba_.mk H
        clear H
        go_wp2_with (first | (go_at_call 34; (with_reducible refine (oe_.calls g s0_0 x1001_2 a1 t249 t250 w0 _ ?side1 ?side2 A73.out).mono ?_); (case side1 => exact Xw); (case side2 => exact Xx); rintro e w74 ⟨rfl, hi, hb, hk⟩; have n0_ := ba_.mk (Kd.yc_ (Kd.qi_ (Kd.yc_ (ok := fun k_ => (((w.heap.size ≤ k_)) ∧ (some k_ ≠ (u211002 : Value).ownBlock ∧ (some k_ ≠ (u211003 : Value).ownBlock ∧ (k_ ≠ gb207 ∧ (k_ ≠ gb210 ∧ k_ ≠ g)))))) (Qp HO_211001.out) (fun k_ hk_ => (⟨hk_, hk_.2.2.2.2.2⟩ : _ ∧ k_ ≠ g))) hk (fun _ h => h.2)) (fun _ h => h.1)); have n1_ := ba_.mk (Kd.yc_ (Kd.qi_ (Kd.yc_ (ok := fun k_ => (((w.heap.size ≤ k_)) ∧ (some k_ ≠ (u211001 : Value).ownBlock ∧ (some k_ ≠ (u211003 : Value).ownBlock ∧ (k_ ≠ gb207 ∧ (k_ ≠ gb210 ∧ k_ ≠ g)))))) (Qp HO_211002.out) (fun k_ hk_ => (⟨hk_, hk_.2.2.2.2.2⟩ : _ ∧ k_ ≠ g))) hk (fun _ h => h.2)) (fun _ h => h.1)); have n2_ := ba_.mk (Kd.fd_ (Kd.hj_ (ga_.apart (show ga_ w0 _ g s0_0 x1001_2 from by repeat (first | (with_reducible first | exact HI0.out | apply ga_.alloc | apply ga_.drewN | apply ga_.drew | apply ga_.tc_ | refine ga_.far ?_ NB0_207.out _ | refine ga_.far ?_ NB0_210.out _) | exact HI0.out)) (Qk HO_211003.out) Qc) hk (fun _ h => h.2)) (fun _ h => h.1)); have n3_ := ba_.mk (ra_.blk hk (g' := gb207) (o := .cells #[.int .i64 0, .slice none 0 0, .slice none 0 0, .slice none 0 0] 31 (0, 0)) (Qf BK207.out) NB207_0.out Qj); have n4_ := ba_.mk (ra_.blk hk (g' := gb210) (o := .cells #[.int .i64 t208, u211001, u211002, u211003] 31 (0, 0)) (Qf BK210.out) NB210_0.out Qj); have n5_ := ba_.mk (ra_.trans Q1 hk (.inl rfl)); have n6_ := ba_.mk (hb); have n7_ := ba_.mk (hi); clear HO_211001; clear HO_211002; clear HO_211003; clear BK207; clear BK210; clear HK; clear HB; clear HI0; have HO_211001 := n0_; have HO_211002 := n1_; have HO_211003 := n2_; have BK207 := n3_; have BK210 := n4_; have HK := n5_; have HB := n6_; have HI0 := n7_; clear n0_ n1_ n2_ n3_ n4_ n5_ n6_ n7_; (try clear hb); (try clear hb2); (try clear hk); (try clear hi)))
        go_meet
        case rel => exact ⟨_, (t249), (t250), Ql, H', ⟨by have := HK1.out; have := HK2.out; first | omega | exact Nat.le_refl _⟩, ⟨by (with_reducible repeat (first | apply Kd.cc_ | apply Kd.dc_ | apply Kd.oc_)); exact HO_211001.out⟩, ⟨by (with_reducible repeat (first | apply Kd.cc_ | apply Kd.dc_ | apply Kd.oc_)); exact HO_211002.out⟩, ⟨by (with_reducible repeat (first | apply Kd.bb_ | apply Kd.cb_ | apply Kd.sb_)); exact HO_211003.out⟩, ⟨Qad⟩, ⟨Qae⟩, ⟨Xr⟩, ⟨Q1⟩, ⟨Xs⟩⟩
       case rest =>
        clear HC71
        try clear c1
        try clear p2
        try clear c3
        try clear c5
        try clear p6
        try clear c7
        try clear c11
        try clear c11b0
        try clear c14
        try clear c15
        try clear c30
        try clear c31
        try clear c53
        try clear c53b0
        try clear c55
        try clear c55b0
        try clear c58
        try clear p64
        try clear c72
        try clear c72b0
        try clear p2
        try clear p6
        obtain ⟨kq, x69_70, x1001_70, rfl, HA, HJ70, HO_211001, HO_211002, HO_211003, BK207, BK210, HI0, HK, HB⟩ := hcut
        cases kq with
        | zero => exact absurd HA.out (by simp [ka_.j2])
        | succ kj70 =>
         have H := HA.out
         clear HA
         simp only [ka_.j2] at H
         by_cases c75 : x69_70 = true
         ·subst c75
          exact absurd H Qj
         replace c75 := Bool.eq_false_iff.mpr c75
         subst c75
         have H1 : (some (t208, x211001_1, x211002_1, x211003_2, x1001_70)) = some (r1, r2, r3, r4, r5) := by rw [if_neg (show ¬ (false = true) by decide)] at H; exact H
         clear H
         have H := H1
         clear H1
         simp only [Option.some.injEq, Prod.mk.injEq] at H
         obtain ⟨rfl, rfl, rfl, rfl, rfl⟩ := H
         have hnb163 := NB210_207.out
         have hnc163 := NB207_210.out
         have hnb164 := NB210_0.out
         have hnc164 := NB0_210.out
         have hcz165_0 : wc.cell? ⟨gb210, 0, none⟩ = some (.int .i64 t208) := (la_ BK210.out 0).trans rfl
         have hcz165_1 : wc.cell? ⟨gb210, 1, none⟩ = some (u211001) := (la_ BK210.out 1).trans rfl
         have hcz165_2 : wc.cell? ⟨gb210, 2, none⟩ = some (u211002) := (la_ BK210.out 2).trans rfl
         have hcz165_3 : wc.cell? ⟨gb210, 3, none⟩ = some (u211003) := (la_ BK210.out 3).trans rfl
         have hfz165_0 := ja_ BK210.out 0
         have hfz165_1 := ja_ BK210.out 1
         have hfz165_2 := ja_ BK210.out 2
         have hfz165_3 := ja_ BK210.out 3
         have hnb166 := NB207_0.out
         have hnc166 := NB0_207.out
         have hcz167_0 : wc.cell? ⟨gb207, 0, none⟩ = some (.int .i64 0) := (la_ BK207.out 0).trans rfl
         have hcz167_1 : wc.cell? ⟨gb207, 1, none⟩ = some (.slice none 0 0) := (la_ BK207.out 1).trans rfl
         have hcz167_2 : wc.cell? ⟨gb207, 2, none⟩ = some (.slice none 0 0) := (la_ BK207.out 2).trans rfl
         have hcz167_3 : wc.cell? ⟨gb207, 3, none⟩ = some (.slice none 0 0) := (la_ BK207.out 3).trans rfl
         have hfz167_0 := ja_ BK207.out 0
         have hfz167_1 := ja_ BK207.out 1
         have hfz167_2 := ja_ BK207.out 2
         have hfz167_3 := ja_ BK207.out 3
         obtain ⟨Ao168, co168, eo168⟩ := Kd.og_ HO_211001.out
         subst eo168
         obtain ⟨Ao169, co169, eo169⟩ := Kd.og_ HO_211002.out
         subst eo169
         obtain ⟨Ao170, co170, eo170⟩ := Kd.td_ HO_211003.out
         subst eo170
         go_wp2
         refine bodyPost_ret (results_cell_row rfl _ _ gb207 31 #[.int .i64 t208, .slice Ao168 x211001_1.length co168, .slice Ao169 x211002_1.length co169, .slice Ao170 x211003_2.length co170] (0, 0) _ rfl (by (with_reducible repeat (first | refine ia_ ?_ _ | refine ma_ ?_ | refine ha_ ?_ _)); refine sc_ (cs := #[.int .i64 t208, .slice Ao168 x211001_1.length co168, .slice Ao169 x211002_1.length co169, .slice none 0 0]) ?_ 3 _ rfl; (with_reducible repeat (first | refine ia_ ?_ _ | refine ma_ ?_ | refine ha_ ?_ _)); refine sc_ (cs := #[.int .i64 t208, .slice Ao168 x211001_1.length co168, .slice none 0 0, .slice none 0 0]) ?_ 2 _ rfl; (with_reducible repeat (first | refine ia_ ?_ _ | refine ma_ ?_ | refine ha_ ?_ _)); refine sc_ (cs := #[.int .i64 t208, .slice none 0 0, .slice none 0 0, .slice none 0 0]) ?_ 1 _ rfl; (with_reducible repeat (first | refine ia_ ?_ _ | refine ma_ ?_ | refine ha_ ?_ _)); refine sc_ (cs := #[.int .i64 0, .slice none 0 0, .slice none 0 0, .slice none 0 0]) ?_ 0 _ rfl; (with_reducible repeat (first | refine ia_ ?_ _ | refine ma_ ?_ | refine ha_ ?_ _)); exact BK207.out) Tryz.underlying31 rfl Qb) rfl ?_
         exact ⟨_, _, _, Qu, by (with_reducible repeat (first | apply Kd.cc_ | apply Kd.dc_ | apply Kd.oc_)); exact Kd.yc_ (Kd.lh_ (p := ⟨gb207, 3, none⟩) (Kd.lh_ (p := ⟨gb207, 2, none⟩) (Kd.lh_ (p := ⟨gb207, 1, none⟩) (Kd.lh_ (p := ⟨gb207, 0, none⟩) (Kd.yc_ HO_211001.out (fun k_ hk => (⟨hk, hk.2.2.2.1⟩ : _ ∧ k_ ≠ gb207))) (fun _ hk => hk.2) (.int .i64 t208)) (fun _ hk => hk.2) (.slice Ao168 x211001_1.length co168)) (fun _ hk => hk.2) (.slice Ao169 x211002_1.length co169)) (fun _ hk => hk.2) (.slice Ao170 x211003_2.length co170)) (fun _ hk => ⟨hk.1.1, ⟨hk.1.2.1, hk.1.2.2.1⟩⟩), by (with_reducible repeat (first | apply Kd.cc_ | apply Kd.dc_ | apply Kd.oc_)); exact Kd.yc_ (Kd.lh_ (p := ⟨gb207, 3, none⟩) (Kd.lh_ (p := ⟨gb207, 2, none⟩) (Kd.lh_ (p := ⟨gb207, 1, none⟩) (Kd.lh_ (p := ⟨gb207, 0, none⟩) (Kd.yc_ HO_211002.out (fun k_ hk => (⟨hk, hk.2.2.2.1⟩ : _ ∧ k_ ≠ gb207))) (fun _ hk => hk.2) (.int .i64 t208)) (fun _ hk => hk.2) (.slice Ao168 x211001_1.length co168)) (fun _ hk => hk.2) (.slice Ao169 x211002_1.length co169)) (fun _ hk => hk.2) (.slice Ao170 x211003_2.length co170)) (fun _ hk => ⟨hk.1.1, ⟨hk.1.2.1, hk.1.2.2.1⟩⟩), by (with_reducible repeat (first | apply Kd.bb_ | apply Kd.cb_ | apply Kd.sb_)); exact Kd.fd_ (Kd.zf_ (p := ⟨gb207, 3, none⟩) (Kd.zf_ (p := ⟨gb207, 2, none⟩) (Kd.zf_ (p := ⟨gb207, 1, none⟩) (Kd.zf_ (p := ⟨gb207, 0, none⟩) (Kd.xe_ HO_211003.out BK207.out Qc) (fun _ hk => hk.2) (.int .i64 t208)) (fun _ hk => hk.2) (.slice Ao168 x211001_1.length co168)) (fun _ hk => hk.2) (.slice Ao169 x211002_1.length co169)) (fun _ hk => hk.2) (.slice Ao170 x211003_2.length co170)) (fun _ hk => hk.1), Xr, Xs, Q1⟩
      rw [if_pos c53] at H
      have c53b0 := decide_eq_true c53
      clear c53
      obtain ⟨⟨t237, t238⟩, A54, H⟩ := Qo H
      try dsimp only at H
      by_cases c55 : t237 > 0
      rotate_left
      ·rw [if_neg c55] at H
       have c55b0 : decide (0 < t237) = false := decide_eq_false c55
       clear c55
       have H' := ba_.mk H
       clear H
       go_wp2_with (first | ((with_reducible refine va_ (f := 30) rfl ?_); refine lc_ (some 47) rfl rfl Tryz.func30 Qb rfl #[.pointer (some ⟨g, 0, none⟩), .int .i64 4] rfl Qm ?_; (with_reducible refine (oa_.calls g s0_0 x1001_2 4 t237 t238 w0 _ ?side1 ?side2 A54.out).mono ?_); (case side1 => exact Xw); (case side2 => exact Xx); rintro e w70 ⟨rfl, hi, hb, hk⟩; refine ⟨_, rfl, ?_⟩; have n0_ := ba_.mk (Kd.yc_ (Kd.qi_ (Kd.yc_ (ok := fun k_ => (((w.heap.size ≤ k_)) ∧ (some k_ ≠ (u211002 : Value).ownBlock ∧ (some k_ ≠ (u211003 : Value).ownBlock ∧ (k_ ≠ gb207 ∧ (k_ ≠ gb210 ∧ k_ ≠ g)))))) (Qp HO_211001.out) (fun k_ hk_ => (⟨hk_, hk_.2.2.2.2.2⟩ : _ ∧ k_ ≠ g))) hk (fun _ h => h.2)) (fun _ h => h.1)); have n1_ := ba_.mk (Kd.yc_ (Kd.qi_ (Kd.yc_ (ok := fun k_ => (((w.heap.size ≤ k_)) ∧ (some k_ ≠ (u211001 : Value).ownBlock ∧ (some k_ ≠ (u211003 : Value).ownBlock ∧ (k_ ≠ gb207 ∧ (k_ ≠ gb210 ∧ k_ ≠ g)))))) (Qp HO_211002.out) (fun k_ hk_ => (⟨hk_, hk_.2.2.2.2.2⟩ : _ ∧ k_ ≠ g))) hk (fun _ h => h.2)) (fun _ h => h.1)); have n2_ := ba_.mk (Kd.fd_ (Kd.hj_ (ga_.apart (show ga_ w0 _ g s0_0 x1001_2 from by repeat (first | (with_reducible first | exact HI0.out | apply ga_.alloc | apply ga_.drewN | apply ga_.drew | apply ga_.tc_ | refine ga_.far ?_ NB0_207.out _ | refine ga_.far ?_ NB0_210.out _) | exact HI0.out)) (Qk HO_211003.out) Qc) hk (fun _ h => h.2)) (fun _ h => h.1)); have n3_ := ba_.mk (ra_.blk hk (g' := gb207) (o := .cells #[.int .i64 0, .slice none 0 0, .slice none 0 0, .slice none 0 0] 31 (0, 0)) (Qf BK207.out) NB207_0.out Qj); have n4_ := ba_.mk (ra_.blk hk (g' := gb210) (o := .cells #[.int .i64 t208, u211001, u211002, u211003] 31 (0, 0)) (Qf BK210.out) NB210_0.out Qj); have n5_ := ba_.mk (ra_.trans Q1 hk (.inl rfl)); have n6_ := ba_.mk (hb); have n7_ := ba_.mk (hi); clear HO_211001; clear HO_211002; clear HO_211003; clear BK207; clear BK210; clear HK; clear HB; clear HI0; have HO_211001 := n0_; have HO_211002 := n1_; have HO_211003 := n2_; have BK207 := n3_; have BK210 := n4_; have HK := n5_; have HB := n6_; have HI0 := n7_; clear n0_ n1_ n2_ n3_ n4_ n5_ n6_ n7_; (try clear hb); (try clear hb2); (try clear hk); (try clear hi)))
       go_roundg k2
       case measure => exact Q7
       case rel => exact ⟨(wrap64 (x10_2 + 1)), (t238), (x211003_2), (u211003), Ql, H', ⟨Q8⟩, ⟨by (with_reducible repeat (first | apply Kd.cc_ | apply Kd.dc_ | apply Kd.oc_)); exact HO_211001.out⟩, ⟨by (with_reducible repeat (first | apply Kd.cc_ | apply Kd.dc_ | apply Kd.oc_)); exact HO_211002.out⟩, ⟨by (with_reducible repeat (first | apply Kd.bb_ | apply Kd.cb_ | apply Kd.sb_)); exact HO_211003.out⟩, ⟨Qad⟩, ⟨Qae⟩, ⟨Xr⟩, ⟨Q1⟩, ⟨Xs⟩⟩
      rw [if_pos c55] at H
      have c55b0 : decide (0 < t237) = true := decide_eq_true c55
      clear c55
      obtain ⟨⟨t239, t240⟩, A56, H⟩ := Qo H
      try dsimp only at H
      obtain ⟨⟨t241, t242⟩, A57, H⟩ := Qo H
      try dsimp only at H
      obtain ⟨y243, hy243⟩ : ∃ y_ : List (S58), y_ = (([(⟨x10_2, t239, t241⟩ : S58)] : List (S58))) := ⟨_, rfl⟩
      replace H : (if x211003_2.length + y243.length < 5864062014805 then (ka_.l1 k2 a1 (wrap64 (x10_2 + 1)) s0_0 t242 t208 x211001_1 x211002_1 (x211003_2 ++ y243)) else (none)) = some (r1, r2, r3, r4, r5) := by first | (rw [hy243]; with_reducible exact H) | (have H2_ := (Option.bind_some _ _).symm.trans H; rw [hy243]; with_reducible exact H2_) | (have H2_ := (Option.bind_some _ _).symm.trans H; with_reducible exact H2_) | with_reducible exact H | (rw [hy243]; exact H) | exact H
      have Ny243 := ba_.mk hy243
      clear hy243
      by_cases c58 : x211003_2.length + y243.length < 5864062014805
      rotate_left
      ·rw [if_neg c58] at H
       exact absurd H Qj
      rw [if_pos c58] at H
      have LMc58 := ba_.mk c58
      clear c58
      obtain ⟨y246, hy246⟩ : ∃ y_ : List (S58), y_ = (x211003_2 ++ y243) := ⟨_, rfl⟩
      replace H : (ka_.l1 k2 a1 (wrap64 (x10_2 + 1)) s0_0 t242 t208 x211001_1 x211002_1 y246) = some (r1, r2, r3, r4, r5) := by first | (rw [hy246]; with_reducible exact H) | (have H2_ := (Option.bind_some _ _).symm.trans H; rw [hy246]; with_reducible exact H2_) | (have H2_ := (Option.bind_some _ _).symm.trans H; with_reducible exact H2_) | with_reducible exact H | (rw [hy246]; exact H) | exact H
      have Ny246 := ba_.mk hy246
      clear hy246
      have H' := ba_.mk H
      clear H
      try go_wp2_with (first | ((with_reducible refine va_ (f := 30) rfl ?_); refine lc_ (some 47) rfl rfl Tryz.func30 Qb rfl #[.pointer (some ⟨g, 0, none⟩), .int .i64 4] rfl Qm ?_; (with_reducible refine (oa_.calls g s0_0 x1001_2 4 t237 t238 w0 _ ?side1 ?side2 A54.out).mono ?_); (case side1 => exact Xw); (case side2 => exact Xx); rintro e w59 ⟨rfl, hi, hb, hk⟩; refine ⟨_, rfl, ?_⟩; have n0_ := ba_.mk (Kd.yc_ (Kd.qi_ (Kd.yc_ (ok := fun k_ => (((w.heap.size ≤ k_)) ∧ (some k_ ≠ (u211002 : Value).ownBlock ∧ (some k_ ≠ (u211003 : Value).ownBlock ∧ (k_ ≠ gb207 ∧ (k_ ≠ gb210 ∧ k_ ≠ g)))))) (Qp HO_211001.out) (fun k_ hk_ => (⟨hk_, hk_.2.2.2.2.2⟩ : _ ∧ k_ ≠ g))) hk (fun _ h => h.2)) (fun _ h => h.1)); have n1_ := ba_.mk (Kd.yc_ (Kd.qi_ (Kd.yc_ (ok := fun k_ => (((w.heap.size ≤ k_)) ∧ (some k_ ≠ (u211001 : Value).ownBlock ∧ (some k_ ≠ (u211003 : Value).ownBlock ∧ (k_ ≠ gb207 ∧ (k_ ≠ gb210 ∧ k_ ≠ g)))))) (Qp HO_211002.out) (fun k_ hk_ => (⟨hk_, hk_.2.2.2.2.2⟩ : _ ∧ k_ ≠ g))) hk (fun _ h => h.2)) (fun _ h => h.1)); have n2_ := ba_.mk (Kd.fd_ (Kd.hj_ (ga_.apart (show ga_ w0 _ g s0_0 x1001_2 from by repeat (first | (with_reducible first | exact HI0.out | apply ga_.alloc | apply ga_.drewN | apply ga_.drew | apply ga_.tc_ | refine ga_.far ?_ NB0_207.out _ | refine ga_.far ?_ NB0_210.out _) | exact HI0.out)) (Qk HO_211003.out) Qc) hk (fun _ h => h.2)) (fun _ h => h.1)); have n3_ := ba_.mk (ra_.blk hk (g' := gb207) (o := .cells #[.int .i64 0, .slice none 0 0, .slice none 0 0, .slice none 0 0] 31 (0, 0)) (Qf BK207.out) NB207_0.out Qj); have n4_ := ba_.mk (ra_.blk hk (g' := gb210) (o := .cells #[.int .i64 t208, u211001, u211002, u211003] 31 (0, 0)) (Qf BK210.out) NB210_0.out Qj); have n5_ := ba_.mk (ra_.trans Q1 hk (.inl rfl)); have n6_ := ba_.mk (hb); have n7_ := ba_.mk (hi); clear HO_211001; clear HO_211002; clear HO_211003; clear BK207; clear BK210; clear HK; clear HB; clear HI0; have HO_211001 := n0_; have HO_211002 := n1_; have HO_211003 := n2_; have BK207 := n3_; have BK210 := n4_; have HK := n5_; have HB := n6_; have HI0 := n7_; clear n0_ n1_ n2_ n3_ n4_ n5_ n6_ n7_; (try clear hb); (try clear hb2); (try clear hk); (try clear hi)))
      have n0_ := ba_.mk (Kd.oc_ HO_211001.out)
      have n1_ := ba_.mk (Kd.oc_ HO_211002.out)
      have n2_ := ba_.mk (Kd.sb_ HO_211003.out)
      have n3_ := ba_.mk (ma_ BK207.out)
      have n4_ := ba_.mk (ma_ BK210.out)
      have n5_ := ba_.mk (ga_.drew HI0.out)
      have n6_ := ba_.mk (qb_ HK.out)
      have n7_ := ba_.mk (ca_ HB.out)
      clear HO_211001
      clear HO_211002
      clear HO_211003
      clear BK207
      clear BK210
      clear HI0
      clear HK
      clear HB
      have HO_211001 := n0_
      have HO_211002 := n1_
      have HO_211003 := n2_
      have BK207 := n3_
      have BK210 := n4_
      have HI0 := n5_
      have HK := n6_
      have HB := n7_
      clear n0_ n1_ n2_ n3_ n4_ n5_ n6_ n7_
      obtain ⟨Ao61, co61, eo61⟩ := Kd.og_ HO_211001.out
      (first | subst eo61 | (injection eo61 with f1_ f2_ f3_; have f4_ := f1_.symm; have f5_ := f3_.symm; clear f1_ f2_ f3_; subst f4_; subst f5_))
      refine ei_ (n := 15) (S := fun w' => w'.cell? ⟨gb210, 0, none⟩ = some (.int .i64 t208) ∧ w'.cell? ⟨gb210, 1, none⟩ = some (.slice Ao61 x211001_1.length co61) ∧ w'.cell? ⟨gb210, 2, none⟩ = some (u211002) ∧ w'.cell? ⟨gb210, 3, none⟩ = some (u211003)) (ds := [14]) #[false, false, false, false, false, false, false, false, false, false, false, false, false, false, false] Qb rfl rfl ⟨(la_ BK210.out 0).trans rfl, (la_ BK210.out 1).trans rfl, (la_ BK210.out 2).trans rfl, (la_ BK210.out 3).trans rfl⟩ (fun hHeld => ?_); refine wh_ ka_.tab12 ka_.bits12 (fun HT_ HW_ => ?_)
      generalize w59.drew = w60 at HO_211001 HO_211002 HO_211003 BK207 BK210 HI0 HK HB hHeld ⊢
      refine qc_ (i := 0) (N := some 49) (v := ?_) (a' := ?_) #[true, false, false, false, false, false, false, false, false, false, false, false, false, false, false] rfl rfl Qn Qe (Or.inl ⟨by rfl, ?_⟩) ?_ ?_
      rotate_left
      ·exact Qg
      rotate_left
      ·exact Qd
      refine qc_ (i := 2) (N := some 51) (v := ?_) (a' := ?_) #[true, false, true, false, false, false, false, false, false, false, false, false, false, false, false] rfl rfl Qn Qe (Or.inl ⟨by rfl, ?_⟩) ?_ ?_
      rotate_left
      ·exact Qg
      rotate_left
      ·exact Qd
      refine qc_ (i := 3) (N := some 52) (v := ?_) (a' := ?_) #[true, false, true, true, false, false, false, false, false, false, false, false, false, false, false] rfl rfl Qn Qe (Or.inl ⟨by rfl, ?_⟩) ?_ ?_
      rotate_left
      ·exact Qg
      rotate_left
      ·exact Qd
      refine qc_ (i := 5) (N := some 54) (v := ?_) (a' := ?_) #[true, false, true, true, false, true, false, false, false, false, false, false, false, false, false] rfl rfl Qn Qe (Or.inl ⟨by rfl, ?_⟩) ?_ ?_
      rotate_left
      ·exact Qg
      rotate_left
      ·exact Qd
      refine qc_ (i := 6) (N := some 55) (v := ?_) (a' := ?_) #[true, false, true, true, false, true, true, false, false, false, false, false, false, false, false] rfl rfl Qn Qe (Or.inl ⟨by rfl, ?_⟩) ?_ ?_
      rotate_left
      ·exact Qg
      rotate_left
      ·exact Qd
      refine wf_ (i := 1) (N := some 50) (v := ?_) (a' := ?_) #[true, true, true, true, false, true, true, false, false, false, false, false, false, false, false] rfl rfl (ve_ HT_.out HW_.out Qb) Qe (Or.inl ⟨by rfl, ?_⟩) hHeld ?_ ?_
      rotate_left
      ·exact Xz
      rotate_left
      ·exact Qd
      refine wf_ (i := 7) (N := some 56) (v := ?_) (a' := ?_) #[true, true, true, true, false, true, true, true, false, false, false, false, false, false, false] rfl rfl (ve_ HT_.out HW_.out Qb) Qe (Or.inl ⟨by rfl, ?_⟩) hHeld ?_ ?_
      rotate_left
      ·exact Xz
      rotate_left
      ·exact Qd
      refine qc_ (i := 8) (N := some 57) (v := ?_) (a' := ?_) #[true, true, true, true, false, true, true, true, true, false, false, false, false, false, false] rfl rfl Qn Qe (Or.inl ⟨by rfl, ?_⟩) ?_ ?_
      rotate_left
      ·exact Qg
      rotate_left
      ·exact Qd
      refine one_ (i := 4) (N := some 53) #[true, true, true, true, true, true, true, true, true, false, false, false, false, false, false] rfl rfl Qz Qc (fun K hK => ?_)
      refine zm_ Tryz.func31 Qb rfl #[.pointer (some ⟨g, 0, none⟩), .int .i64 1, .int .i64 2] (by rfl) rfl rfl Qm ?_
      with_reducible refine (ob_.calls g s0_0 t238 1 2 t239 t240 w0 _ ?side1 ?side2 A56.out).mono ?_
      (case side1 => exact Xw)
      (case side2 => exact Xx)
      rintro e w62 ⟨rfl, hi, hb, hk⟩
      refine ⟨_, rfl, ?_⟩
      have n0_ := ba_.mk (Kd.yc_ (Kd.qi_ (Kd.yc_ (ok := fun k_ => (((w.heap.size ≤ k_)) ∧ (some k_ ≠ (u211002 : Value).ownBlock ∧ (some k_ ≠ (u211003 : Value).ownBlock ∧ (k_ ≠ gb207 ∧ (k_ ≠ gb210 ∧ k_ ≠ g)))))) (Qp HO_211001.out) (fun k_ hk_ => (⟨hk_, hk_.2.2.2.2.2⟩ : _ ∧ k_ ≠ g))) hk (fun _ h => h.2)) (fun _ h => h.1))
      have n1_ := ba_.mk (Kd.yc_ (Kd.qi_ (Kd.yc_ (ok := fun k_ => (((w.heap.size ≤ k_)) ∧ (some k_ ≠ (.slice Ao61 x211001_1.length co61 : Value).ownBlock ∧ (some k_ ≠ (u211003 : Value).ownBlock ∧ (k_ ≠ gb207 ∧ (k_ ≠ gb210 ∧ k_ ≠ g)))))) (Qp HO_211002.out) (fun k_ hk_ => (⟨hk_, hk_.2.2.2.2.2⟩ : _ ∧ k_ ≠ g))) hk (fun _ h => h.2)) (fun _ h => h.1))
      have n2_ := ba_.mk (Kd.fd_ (Kd.hj_ (ga_.apart (show ga_ w0 _ g s0_0 t238 from by repeat (first | (with_reducible first | exact HI0.out | apply ga_.alloc | apply ga_.drewN | apply ga_.drew | apply ga_.tc_ | refine ga_.far ?_ NB0_207.out _ | refine ga_.far ?_ NB0_210.out _) | exact HI0.out)) (Qk HO_211003.out) Qc) hk (fun _ h => h.2)) (fun _ h => h.1))
      have n3_ := ba_.mk (ra_.blk hk (g' := gb207) (o := .cells #[.int .i64 0, .slice none 0 0, .slice none 0 0, .slice none 0 0] 31 (0, 0)) (Qf BK207.out) NB207_0.out Qj)
      have n4_ := ba_.mk (ra_.blk hk (g' := gb210) (o := .cells #[.int .i64 t208, .slice Ao61 x211001_1.length co61, u211002, u211003] 31 (0, 0)) (Qf BK210.out) NB210_0.out Qj)
      have n5_ := ba_.mk (ra_.trans Q1 hk (.inl rfl))
      have n6_ := ba_.mk (hb)
      have n7_ := ba_.mk (hi)
      clear HO_211001
      clear HO_211002
      clear HO_211003
      clear BK207
      clear BK210
      clear HK
      clear HB
      clear HI0
      have HO_211001 := n0_
      have HO_211002 := n1_
      have HO_211003 := n2_
      have BK207 := n3_
      have BK210 := n4_
      have HK := n5_
      have HB := n6_
      have HI0 := n7_
      clear n0_ n1_ n2_ n3_ n4_ n5_ n6_ n7_
      (try clear hb)
      (try clear hb2)
      (try clear hk)
      (try clear hi)
      refine hK.out _ _ ⟨(la_ BK210.out 0).trans rfl, (la_ BK210.out 1).trans rfl, (la_ BK210.out 2).trans rfl, (la_ BK210.out 3).trans rfl⟩ (fun hHeld => ?_)
      clear hK K
      refine ug_ (a' := ?_) ?_ ?_
      rotate_left
      ·show Act.put _ (some 53) _ = _
       simp only [Act.put, List.setIfInBounds_toArray, List.set_cons_zero, List.set_cons_succ, yb_, ac_]
       rfl
      refine one_ (i := 9) (N := some 58) #[true, true, true, true, true, true, true, true, true, true, false, false, false, false, false] rfl rfl Qz Qc (fun K hK => ?_)
      refine zm_ Tryz.func30 Qb rfl #[.pointer (some ⟨g, 0, none⟩), .int .i64 (x211001_1.length : Int)] (by rfl) rfl rfl Qm ?_
      with_reducible refine (oa_.calls g s0_0 t240 (x211001_1.length : Int) t241 t242 w0 _ ?side1 ?side2 A57.out).mono ?_
      (case side1 => exact Xw)
      (case side2 => exact Xx)
      rintro e w63 ⟨rfl, hi, hb, hk⟩
      refine ⟨_, rfl, ?_⟩
      have n0_ := ba_.mk (Kd.yc_ (Kd.qi_ (Kd.yc_ (ok := fun k_ => (((w.heap.size ≤ k_)) ∧ (some k_ ≠ (u211002 : Value).ownBlock ∧ (some k_ ≠ (u211003 : Value).ownBlock ∧ (k_ ≠ gb207 ∧ (k_ ≠ gb210 ∧ k_ ≠ g)))))) (Qp HO_211001.out) (fun k_ hk_ => (⟨hk_, hk_.2.2.2.2.2⟩ : _ ∧ k_ ≠ g))) hk (fun _ h => h.2)) (fun _ h => h.1))
      have n1_ := ba_.mk (Kd.yc_ (Kd.qi_ (Kd.yc_ (ok := fun k_ => (((w.heap.size ≤ k_)) ∧ (some k_ ≠ (.slice Ao61 x211001_1.length co61 : Value).ownBlock ∧ (some k_ ≠ (u211003 : Value).ownBlock ∧ (k_ ≠ gb207 ∧ (k_ ≠ gb210 ∧ k_ ≠ g)))))) (Qp HO_211002.out) (fun k_ hk_ => (⟨hk_, hk_.2.2.2.2.2⟩ : _ ∧ k_ ≠ g))) hk (fun _ h => h.2)) (fun _ h => h.1))
      have n2_ := ba_.mk (Kd.fd_ (Kd.hj_ (ga_.apart (show ga_ w0 _ g s0_0 t240 from by repeat (first | (with_reducible first | exact HI0.out | apply ga_.alloc | apply ga_.drewN | apply ga_.drew | apply ga_.tc_ | refine ga_.far ?_ NB0_207.out _ | refine ga_.far ?_ NB0_210.out _) | exact HI0.out)) (Qk HO_211003.out) Qc) hk (fun _ h => h.2)) (fun _ h => h.1))
      have n3_ := ba_.mk (ra_.blk hk (g' := gb207) (o := .cells #[.int .i64 0, .slice none 0 0, .slice none 0 0, .slice none 0 0] 31 (0, 0)) (Qf BK207.out) NB207_0.out Qj)
      have n4_ := ba_.mk (ra_.blk hk (g' := gb210) (o := .cells #[.int .i64 t208, .slice Ao61 x211001_1.length co61, u211002, u211003] 31 (0, 0)) (Qf BK210.out) NB210_0.out Qj)
      have n5_ := ba_.mk (ra_.trans Q1 hk (.inl rfl))
      have n6_ := ba_.mk (hb)
      have n7_ := ba_.mk (hi)
      clear HO_211001
      clear HO_211002
      clear HO_211003
      clear BK207
      clear BK210
      clear HK
      clear HB
      clear HI0
      have HO_211001 := n0_
      have HO_211002 := n1_
      have HO_211003 := n2_
      have BK207 := n3_
      have BK210 := n4_
      have HK := n5_
      have HB := n6_
      have HI0 := n7_
      clear n0_ n1_ n2_ n3_ n4_ n5_ n6_ n7_
      (try clear hb)
      (try clear hb2)
      (try clear hk)
      (try clear hi)
      refine hK.out _ _ ⟨(la_ BK210.out 0).trans rfl, (la_ BK210.out 1).trans rfl, (la_ BK210.out 2).trans rfl, (la_ BK210.out 3).trans rfl⟩ (fun hHeld => ?_)
      clear hK K
      refine ug_ (a' := ?_) ?_ ?_
      rotate_left
      ·show Act.put _ (some 58) _ = _
       simp only [Act.put, List.setIfInBounds_toArray, List.set_cons_zero, List.set_cons_succ, yb_, ac_]
       rfl
      refine qc_ (i := 10) (N := some 59) (v := ?_) (a' := ?_) #[true, true, true, true, true, true, true, true, true, true, true, false, false, false, false] rfl rfl Qn Qe (Or.inl ⟨by rfl, ?_⟩) ?_ ?_
      rotate_left
      ·exact Qg
      rotate_left
      ·exact Qd
      refine one_ (i := 11) (N := some 60) #[true, true, true, true, true, true, true, true, true, true, true, true, false, false, false] rfl rfl Qz Qc (fun K hK => ?_)
      refine Kd.ds_ k58 _ 58 ?hg_1161 (N := 60) ?hd_1161 (xs := ([(⟨x10_2, t239, t241⟩ : S58)] : List (S58))) (inner := [.int .i64 x10_2, .int .i64 t239, .int .i64 t241]) (ok := fun _ => True) (okp := fun _ => True) ?hr_1161 ?hp_1161 (fun _ hk => hk) trivial (Below.refl _ _) (Nat.le_refl _) Qj ?_; (case hd_1161 => rfl); (case hg_1161 => rfl); (case hr_1161 => exact Qt); (case hp_1161 => exact (Reps.c3 (show Kd.M k58 _ _ _ (⟨x10_2, t239, t241⟩ : S58) [.int .i64 x10_2, .int .i64 t239, .int .i64 t241] from (yj1_ _ _ _ (⟨x10_2, t239, t241⟩ : S58) )) (Reps.none _ _)))
      intro v244 w64 ho65 hb hg_ hnew_
      clear hg_ hnew_
      (first | rw [← Ny243.out] at ho65 | (simp only [Int.reduceToNat] at ho65; rw [← Ny243.out] at ho65))
      have n0_ := ba_.mk (Kd.te_ (Qp HO_211001.out) (Kd.cf_ ho65) hb)
      have n1_ := ba_.mk (Kd.te_ (Qp HO_211002.out) (Kd.cf_ ho65) hb)
      have n2_ := ba_.mk (Kd.ue_ (Qk HO_211003.out) (Kd.cf_ ho65) hb)
      have n3_ := ba_.mk (Kd.xd_ (Kd.fg_ (Kd.rh1_ (M := fun k_ => (w.heap.size ≤ k_)) ho65 (kd_ (w := w) (g := g) (row := none) Q1) (fun k_ h_ => h_)) (Kd.R_lt (Qk HO_211003.out))) (kd_ (w := w) (g := g) (row := none) Q1))
      have n4_ := ba_.mk (pc_ (g := gb207) (o := .cells #[.int .i64 0, .slice none 0 0, .slice none 0 0, .slice none 0 0] 31 (0, 0)) (Qf BK207.out) hb)
      have n5_ := ba_.mk (pc_ (g := gb210) (o := .cells #[.int .i64 t208, .slice Ao61 x211001_1.length co61, u211002, u211003] 31 (0, 0)) (Qf BK210.out) hb)
      have n6_ := ba_.mk (ga_.below Xr hb)
      have n7_ := ba_.mk (ra_.trans Q1 (ra_.sf_ hb g none) (.inl rfl))
      have n8_ := ba_.mk (hb_ Xs hb)
      clear HO_211001
      clear HO_211002
      clear HO_211003
      clear BK207
      clear BK210
      clear HI0
      clear HK
      clear HB
      have HO_211001 := n0_
      have HO_211002 := n1_
      have HO_211003 := n2_
      have HO245 := n3_
      have BK207 := n4_
      have BK210 := n5_
      have HI0 := n6_
      have HK := n7_
      have HB := n8_
      clear n0_ n1_ n2_ n3_ n4_ n5_ n6_ n7_ n8_
      clear hb ho65
      obtain ⟨Ao67, co67, eo67⟩ := Kd.td_ HO245.out
      (first | subst eo67 | (injection eo67 with f1_ f2_ f3_; have f4_ := f1_.symm; have f5_ := f3_.symm; clear f1_ f2_ f3_; subst f4_; subst f5_))
      refine hK.out _ _ ⟨(la_ BK210.out 0).trans rfl, (la_ BK210.out 1).trans rfl, (la_ BK210.out 2).trans rfl, (la_ BK210.out 3).trans rfl⟩ (fun hHeld => ?_)
      clear hK K
      refine ug_ (a' := ?_) ?_ ?_
      rotate_left
      ·show Act.put _ (some 60) _ = _
       simp only [Act.put, List.setIfInBounds_toArray, List.set_cons_zero, List.set_cons_succ, yb_, ac_]
       rfl
      refine one_ (i := 12) (N := some 61) #[true, true, true, true, true, true, true, true, true, true, true, true, true, false, false] rfl rfl Qz Qc (fun K hK => ?_)
      refine Kd.ck_ k58 w.heap.size (by rfl) (.tmp 50) (.tmp 60) 29 58 (.agg #[(.int .i64 0), (.int .i64 0), (.int .i64 0)]) 24 rfl Tryz.underlying29 info58 rfl Qc Qa u211003 x211003_2 y243 _ _ _ (fun k_ => (w.heap.size ≤ k_) ∧ some k_ ≠ (.slice Ao67 y243.length co67 : Value).ownBlock) (fun _ => False) rfl rfl ?aO ?aR (fun _ _ h => h) (fun _ h => h.elim) ?aF (Below.refl _ _) ?aS ?aL ?_
      (case aR => repeat (first | exact (Kd.wb_ HO245.out).2.2 | (with_reducible refine Kd.zc_ ?_ _) | (with_reducible refine Kd.ad_ ?_ _) | (with_reducible refine Kd.od_ ?_)))
      (case aF => exact (fun k_ hk => ⟨(Nat.le_trans (kd_ (w := w) (g := g) (row := none) Q1) hk), Kd.fresh' (Kd.R_lt (Qk HO245.out)) k_ hk⟩))
      (case aO => exact (Qk HO_211003.out))
      (case aS => exact (kd_ (w := w) (g := g) (row := none) Q1))
      (case aL => have := LMc58.out; omega)
      intro v247 w66 ho hb hg hat
      rw [← Ny246.out] at ho
      have n0_ := ba_.mk (Kd.vg_ (ok := (fun k_ => (w.heap.size ≤ k_) ∧ some k_ ≠ (u211002 : Value).ownBlock ∧ some k_ ≠ (.slice Ao67 y243.length co67 : Value).ownBlock ∧ k_ ≠ gb207 ∧ k_ ≠ gb210 ∧ k_ ≠ g)) (by (with_reducible repeat (first | apply Kd.cc_ | apply Kd.dc_ | apply Kd.oc_)); exact Kd.yc_ HO_211001.out (fun _ hk => ⟨⟨hk.1.1, ⟨hk.1.2.1, ⟨hk.2, ⟨hk.1.2.2.2.1, ⟨hk.1.2.2.2.2.1, hk.1.2.2.2.2.2⟩⟩⟩⟩⟩, hk.1.2.2.1⟩)) hg hat)
      have n1_ := ba_.mk (Kd.vg_ (ok := (fun k_ => (w.heap.size ≤ k_) ∧ some k_ ≠ (.slice Ao61 x211001_1.length co61 : Value).ownBlock ∧ some k_ ≠ (.slice Ao67 y243.length co67 : Value).ownBlock ∧ k_ ≠ gb207 ∧ k_ ≠ gb210 ∧ k_ ≠ g)) (by (with_reducible repeat (first | apply Kd.cc_ | apply Kd.dc_ | apply Kd.oc_)); exact Kd.yc_ HO_211002.out (fun _ hk => ⟨⟨hk.1.1, ⟨hk.1.2.1, ⟨hk.2, ⟨hk.1.2.2.2.1, ⟨hk.1.2.2.2.2.1, hk.1.2.2.2.2.2⟩⟩⟩⟩⟩, hk.1.2.2.1⟩)) hg hat)
      have n2_ := ba_.mk (ce_ (g := gb207) (o := .cells #[.int .i64 0, .slice none 0 0, .slice none 0 0, .slice none 0 0] 31 (0, 0)) (Qf BK207.out) hg (Kd.R_ne HO_211003.out BK207.out Qc))
      have n3_ := ba_.mk (ce_ (g := gb210) (o := .cells #[.int .i64 t208, .slice Ao61 x211001_1.length co61, u211002, u211003] 31 (0, 0)) (Qf BK210.out) hg (Kd.R_ne HO_211003.out BK210.out Qc))
      have n4_ := ba_.mk (ga_.grown Xr hg (ga_.el_ HI0.out HO_211003.out Qc))
      have n5_ := ba_.mk (Kd.oh_ (ok := (fun k_ => (w.heap.size ≤ k_))) (by (with_reducible repeat (first | apply Kd.bb_ | apply Kd.cb_ | apply Kd.sb_)); exact Kd.fd_ HO245.out (fun _ hk => ⟨hk.1.1, hk.2⟩)) hg hat)
      have n6_ := ba_.mk (gg_ Xs HL.out hb)
      have n7_ := ba_.mk (ra_.trans Q1 (ra_.ki_ hg g) (Kd.zp_ HO_211003.out))
      have n8_ := ba_.mk (ho)
      clear HO_211001
      clear HO_211002
      clear BK207
      clear BK210
      clear HI0
      clear HO245
      clear HB
      clear HK
      clear HO_211003
      have HO_211001 := n0_
      have HO_211002 := n1_
      have BK207 := n2_
      have BK210 := n3_
      have HI0 := n4_
      have HO245 := n5_
      have HB := n6_
      have HK := n7_
      have HO248 := n8_
      clear n0_ n1_ n2_ n3_ n4_ n5_ n6_ n7_ n8_
      clear ho hb hg hat
      obtain ⟨Ao68, co68, eo68⟩ := Kd.td_ HO248.out
      (first | subst eo68 | (injection eo68 with f1_ f2_ f3_; have f4_ := f1_.symm; have f5_ := f3_.symm; clear f1_ f2_ f3_; subst f4_; subst f5_))
      refine hK.out _ _ ⟨(la_ BK210.out 0).trans rfl, (la_ BK210.out 1).trans rfl, (la_ BK210.out 2).trans rfl, (la_ BK210.out 3).trans rfl⟩ (fun hHeld => ?_)
      clear hK K
      refine ug_ (a' := ?_) ?_ ?_
      rotate_left
      ·show Act.put _ (some 61) _ = _
       simp only [Act.put, List.setIfInBounds_toArray, List.set_cons_zero, List.set_cons_succ, yb_, ac_]
       rfl
      refine qc_ (i := 13) (N := some 62) (v := ?_) (a' := ?_) #[true, true, true, true, true, true, true, true, true, true, true, true, true, true, false] rfl rfl Qn Qe (Or.inl ⟨by rfl, ?_⟩) ?_ ?_
      rotate_left
      ·exact Qg
      rotate_left
      ·exact Qd
      refine an_ (i := 14) (N := none) #[true, true, true, true, true, true, true, true, true, true, true, true, true, true, true] rfl rfl Qz Qc (fun K hK => ?_)
      have hs69 : w66.cell? ⟨gb210, 3, none⟩ = some (u211003) := (la_ BK210.out 3).trans rfl
      have hfs69 := ja_ BK210.out 3
      have hns69_0 := NB207_210.out
      have hms69_0 := NB210_207.out
      refine em_ (w1 := ?_) (by rfl) rfl ?_ ?_
      rotate_left
      ·go_simp
       rfl
      refine hK.out _ _ ?_
      clear hK K
      refine yk_ Xt ?_
      try go_wp2
      go_roundg k2
      case measure => exact Q7
      case rel => exact ⟨(wrap64 (x10_2 + 1)), (t242), (y246), (.slice Ao68 y246.length co68), Ql, H', ⟨Q8⟩, ⟨by (with_reducible repeat (first | apply Kd.cc_ | apply Kd.dc_ | apply Kd.oc_)); exact Kd.yc_ (Kd.lh_ (p := ⟨gb210, 3, none⟩) (Kd.yc_ HO_211001.out (fun k_ hk => (⟨hk, hk.1.2.2.2.2.1⟩ : _ ∧ k_ ≠ gb210))) (fun _ hk => hk.2) (.slice Ao68 y246.length co68)) (fun _ hk => ⟨hk.1.1.1, ⟨hk.1.1.2.1, ⟨hk.1.2, ⟨hk.1.1.2.2.2.1, ⟨hk.1.1.2.2.2.2.1, hk.1.1.2.2.2.2.2⟩⟩⟩⟩⟩)⟩, ⟨by (with_reducible repeat (first | apply Kd.cc_ | apply Kd.dc_ | apply Kd.oc_)); exact Kd.yc_ (Kd.lh_ (p := ⟨gb210, 3, none⟩) (Kd.yc_ HO_211002.out (fun k_ hk => (⟨hk, hk.1.2.2.2.2.1⟩ : _ ∧ k_ ≠ gb210))) (fun _ hk => hk.2) (.slice Ao68 y246.length co68)) (fun _ hk => ⟨hk.1.1.1, ⟨hk.1.1.2.1, ⟨hk.1.2, ⟨hk.1.1.2.2.2.1, ⟨hk.1.1.2.2.2.2.1, hk.1.1.2.2.2.2.2⟩⟩⟩⟩⟩)⟩, ⟨by (with_reducible repeat (first | apply Kd.bb_ | apply Kd.cb_ | apply Kd.sb_)); exact Kd.fd_ (Kd.zf_ (p := ⟨gb210, 3, none⟩) (Kd.xe_ HO248.out BK210.out Qc) (fun _ hk => hk.2) (.slice Ao68 y246.length co68)) (fun _ hk => hk.1.1)⟩, ⟨by (with_reducible repeat (first | refine ia_ ?_ _ | refine ma_ ?_ | refine ha_ ?_ _)); refine ie_ ?_ NB207_210.out _; (with_reducible repeat (first | refine ia_ ?_ _ | refine ma_ ?_ | refine ha_ ?_ _)); exact BK207.out⟩, ⟨by (with_reducible repeat (first | refine ia_ ?_ _ | refine ma_ ?_ | refine ha_ ?_ _)); refine sc_ (cs := #[.int .i64 t208, .slice Ao61 x211001_1.length co61, u211002, u211003]) ?_ 3 _ rfl; (with_reducible repeat (first | refine ia_ ?_ _ | refine ma_ ?_ | refine ha_ ?_ _)); exact BK210.out⟩, ⟨Xr⟩, ⟨Q1⟩, ⟨Xs⟩⟩
   rw [if_pos c11] at H
   have c11b0 := decide_eq_true c11
   clear c11
   obtain ⟨⟨t213, t214, t215, t218⟩, A12, H⟩ := Qo H
   try dsimp only at H
   obtain ⟨⟨t220, t223⟩, A13, H⟩ := Qo H
   try dsimp only at H
   obtain ⟨y225, hy225⟩ : ∃ y_ : List (S65), y_ = (([(⟨t213, t214, t215⟩ : S65)] : List (S65))) := ⟨_, rfl⟩
   replace H : (if x211001_1.length + y225.length < 3518437208883 then ((some (([(⟨t220⟩ : S60)] : List (S60)) : List (S60))).bind fun y231 => (if x211002_1.length + y231.length < 5864062014805 then (ka_.l0 k1 a1 (wrap64 (x6_1 + 1)) s0_0 t218 t208 (x211001_1 ++ y225) (x211002_1 ++ y231)) else (none))) else (none)) = some (r1, r2, r3, r4, r5) := by first | (rw [hy225]; with_reducible exact H) | (have H2_ := (Option.bind_some _ _).symm.trans H; rw [hy225]; with_reducible exact H2_) | (have H2_ := (Option.bind_some _ _).symm.trans H; with_reducible exact H2_) | with_reducible exact H | (rw [hy225]; exact H) | exact H
   have Ny225 := ba_.mk hy225
   clear hy225
   obtain ⟨c14, H⟩ := Qq H
   have LMc14 := ba_.mk c14
   clear c14
   obtain ⟨y228, hy228⟩ : ∃ y_ : List (S65), y_ = (x211001_1 ++ y225) := ⟨_, rfl⟩
   replace H : ((some (([(⟨t220⟩ : S60)] : List (S60)) : List (S60))).bind fun y231 => (if x211002_1.length + y231.length < 5864062014805 then (ka_.l0 k1 a1 (wrap64 (x6_1 + 1)) s0_0 t218 t208 y228 (x211002_1 ++ y231)) else (none))) = some (r1, r2, r3, r4, r5) := by first | (rw [hy228]; with_reducible exact H) | (have H2_ := (Option.bind_some _ _).symm.trans H; rw [hy228]; with_reducible exact H2_) | (have H2_ := (Option.bind_some _ _).symm.trans H; with_reducible exact H2_) | with_reducible exact H | (rw [hy228]; exact H) | exact H
   have Ny228 := ba_.mk hy228
   clear hy228
   obtain ⟨y231, hy231⟩ : ∃ y_ : List (S60), y_ = (([(⟨t220⟩ : S60)] : List (S60))) := ⟨_, rfl⟩
   replace H : (if x211002_1.length + y231.length < 5864062014805 then (ka_.l0 k1 a1 (wrap64 (x6_1 + 1)) s0_0 t218 t208 y228 (x211002_1 ++ y231)) else (none)) = some (r1, r2, r3, r4, r5) := by first | (rw [hy231]; with_reducible exact H) | (have H2_ := (Option.bind_some _ _).symm.trans H; rw [hy231]; with_reducible exact H2_) | (have H2_ := (Option.bind_some _ _).symm.trans H; with_reducible exact H2_) | with_reducible exact H | (rw [hy231]; exact H) | exact H
   have Ny231 := ba_.mk hy231
   clear hy231
   obtain ⟨c15, H⟩ := Qq H
   have LMc15 := ba_.mk c15
   clear c15
   obtain ⟨y234, hy234⟩ : ∃ y_ : List (S60), y_ = (x211002_1 ++ y231) := ⟨_, rfl⟩
   replace H : (ka_.l0 k1 a1 (wrap64 (x6_1 + 1)) s0_0 t218 t208 y228 y234) = some (r1, r2, r3, r4, r5) := by first | (rw [hy234]; with_reducible exact H) | (have H2_ := (Option.bind_some _ _).symm.trans H; rw [hy234]; with_reducible exact H2_) | (have H2_ := (Option.bind_some _ _).symm.trans H; with_reducible exact H2_) | with_reducible exact H | (rw [hy234]; exact H) | exact H
   have Ny234 := ba_.mk hy234
   clear hy234
   have H' := ba_.mk H
   clear H
   try go_wp2_with (first | ((with_reducible refine va_ (f := 31) rfl ?_); refine lc_ (some 16) rfl rfl Tryz.func31 Qb rfl #[.pointer (some ⟨g, 0, none⟩), .int .i64 1, .int .i64 2] rfl Qm ?_; (with_reducible refine (ob_.calls g s0_0 x1001_1 1 2 t211 t212 w0 _ ?side1 ?side2 A10.out).mono ?_); (case side1 => exact Xw); (case side2 => exact Xx); rintro e w16 ⟨rfl, hi, hb, hk⟩; refine ⟨_, rfl, ?_⟩; have n0_ := ba_.mk (Kd.yc_ (Kd.qi_ (Kd.yc_ (ok := fun k_ => (((w.heap.size ≤ k_)) ∧ (some k_ ≠ (u211002 : Value).ownBlock ∧ (k_ ≠ gb207 ∧ (k_ ≠ gb210 ∧ k_ ≠ g))))) (Qp HO_211001.out) (fun k_ hk_ => (⟨hk_, hk_.2.2.2.2⟩ : _ ∧ k_ ≠ g))) hk (fun _ h => h.2)) (fun _ h => h.1)); have n1_ := ba_.mk (Kd.yc_ (Kd.qi_ (Kd.yc_ (ok := fun k_ => (((w.heap.size ≤ k_)) ∧ (some k_ ≠ (u211001 : Value).ownBlock ∧ (k_ ≠ gb207 ∧ (k_ ≠ gb210 ∧ k_ ≠ g))))) (Qp HO_211002.out) (fun k_ hk_ => (⟨hk_, hk_.2.2.2.2⟩ : _ ∧ k_ ≠ g))) hk (fun _ h => h.2)) (fun _ h => h.1)); have n2_ := ba_.mk (ra_.blk hk (g' := gb207) (o := .cells #[.int .i64 0, .slice none 0 0, .slice none 0 0, .slice none 0 0] 31 (0, 0)) (Qf BK207.out) NB207_0.out Qj); have n3_ := ba_.mk (ra_.blk hk (g' := gb210) (o := .cells #[.int .i64 t208, u211001, u211002, .slice none 0 0] 31 (0, 0)) (Qf BK210.out) NB210_0.out Qj); have n4_ := ba_.mk (ra_.trans Q1 hk (.inl rfl)); have n5_ := ba_.mk (hb); have n6_ := ba_.mk (hi); clear HO_211001; clear HO_211002; clear BK207; clear BK210; clear HK; clear HB; clear HI0; have HO_211001 := n0_; have HO_211002 := n1_; have BK207 := n2_; have BK210 := n3_; have HK := n4_; have HB := n5_; have HI0 := n6_; clear n0_ n1_ n2_ n3_ n4_ n5_ n6_; (try clear hb); (try clear hb2); (try clear hk); (try clear hi); have hnb17 := NB210_207.out; have hnc17 := NB207_210.out; have hnb18 := NB210_0.out; have hnc18 := NB0_210.out; have hcz19_0 : w16.cell? ⟨gb210, 0, none⟩ = some (.int .i64 t208) := (la_ BK210.out 0).trans rfl; have hcz19_1 : w16.cell? ⟨gb210, 1, none⟩ = some (u211001) := (la_ BK210.out 1).trans rfl; have hcz19_2 : w16.cell? ⟨gb210, 2, none⟩ = some (u211002) := (la_ BK210.out 2).trans rfl; have hcz19_3 : w16.cell? ⟨gb210, 3, none⟩ = some (.slice none 0 0) := (la_ BK210.out 3).trans rfl; have hfz19_0 := ja_ BK210.out 0; have hfz19_1 := ja_ BK210.out 1; have hfz19_2 := ja_ BK210.out 2; have hfz19_3 := ja_ BK210.out 3) | ((with_reducible refine va_ (f := 32) rfl ?_); refine lc_ (some 24) rfl rfl Tryz.func32 Qb rfl #[.pointer (some ⟨g, 0, none⟩), .int .i64 t208, .int .i64 x6_1] rfl Qm ?_; (with_reducible refine (eb_.calls k1 g s0_0 t212 t208 x6_1 t213 t214 t215 t218 w0 _ ?side1 ?side2 A12.out).mono ?_); (case side1 => exact Xw); (case side2 => exact Xx); rintro e w20 ⟨v216, rfl, ho0, hi, hb, hk⟩; refine ⟨_, rfl, ?_⟩; have n0_ := ba_.mk (Kd.yc_ (Kd.oh1_ (Kd.nh1_ (Kd.yc_ (ok := fun k_ => (((w.heap.size ≤ k_)) ∧ (some k_ ≠ (u211002 : Value).ownBlock ∧ (k_ ≠ gb207 ∧ (k_ ≠ gb210 ∧ k_ ≠ g))))) (Qp HO_211001.out) (fun k_ hk_ => (⟨hk_, hk_.2.2.2.2⟩ : _ ∧ k_ ≠ g))) hk) (Kd.cf_ ho0)) (fun _ h_ => h_.1)); have n1_ := ba_.mk (Kd.yc_ (Kd.oh1_ (Kd.nh1_ (Kd.yc_ (ok := fun k_ => (((w.heap.size ≤ k_)) ∧ (some k_ ≠ (u211001 : Value).ownBlock ∧ (k_ ≠ gb207 ∧ (k_ ≠ gb210 ∧ k_ ≠ g))))) (Qp HO_211002.out) (fun k_ hk_ => (⟨hk_, hk_.2.2.2.2⟩ : _ ∧ k_ ≠ g))) hk) (Kd.cf_ ho0)) (fun _ h_ => h_.1)); have n2_ := ba_.mk (ra_.blk hk (g' := gb207) (o := .cells #[.int .i64 0, .slice none 0 0, .slice none 0 0, .slice none 0 0] 31 (0, 0)) (Qf BK207.out) NB207_0.out Qj); have n3_ := ba_.mk (ra_.blk hk (g' := gb210) (o := .cells #[.int .i64 t208, u211001, u211002, .slice none 0 0] 31 (0, 0)) (Qf BK210.out) NB210_0.out Qj); have n4_ := ba_.mk (Kd.xd_ (Kd.rh1_ (M := fun k_ => (w.heap.size ≤ k_)) ho0 (kd_ (w := w) (g := g) (row := none) Q1) (fun k_ h_ => h_)) (kd_ (w := w) (g := g) (row := none) Q1)); have n5_ := ba_.mk (ra_.trans Q1 hk (.inl rfl)); have n6_ := ba_.mk (hb); have n7_ := ba_.mk (hi); clear HO_211001; clear HO_211002; clear BK207; clear BK210; clear HK; clear HB; clear HI0; have HO_211001 := n0_; have HO_211002 := n1_; have BK207 := n2_; have BK210 := n3_; have HO217 := n4_; have HK := n5_; have HB := n6_; have HI0 := n7_; clear n0_ n1_ n2_ n3_ n4_ n5_ n6_ n7_; (try clear hb); (try clear hb2); (try clear hk); (try clear hi); (try clear ho0)) | ((with_reducible refine ld_ (N := 7) rfl ?_); refine de_ ?hg (N := 7) ?hd (cs := #[.int .i64 0, .int .i64 0, .slice none 0 0]) (t := 65) ?hr ?_; (case hd => rfl); (case hg => rfl); (case hr => exact Qt); intro gb219 hg w21 hbox hb; have n0_ := ba_.mk (Kd.xf_ (Kd.bk_ (Qp HO_211001.out) gb219 (Nat.le_of_eq hg.symm)) hb); have n1_ := ba_.mk (Kd.xf_ (Kd.bk_ (Qp HO_211002.out) gb219 (Nat.le_of_eq hg.symm)) hb); have n2_ := ba_.mk (Kd.be_ (Qk HO217.out) hb); have n3_ := ba_.mk (pc_ (g := gb207) (o := .cells #[.int .i64 0, .slice none 0 0, .slice none 0 0, .slice none 0 0] 31 (0, 0)) (Qf BK207.out) hb); have n4_ := ba_.mk (pc_ (g := gb210) (o := .cells #[.int .i64 t208, u211001, u211002, .slice none 0 0] 31 (0, 0)) (Qf BK210.out) hb); have n5_ := ba_.mk (ga_.below Xr hb); have n6_ := ba_.mk (ra_.trans Q1 (ra_.sf_ hb g none) (.inl rfl)); have n7_ := ba_.mk (hb_ Xs hb); have n8_ := ba_.mk (hbox); have n9_ := ba_.mk ((by rw [hg]; exact (kd_ (w := w) (g := g) (row := none) Q1) : w.heap.size ≤ gb219)); have n10_ := ba_.mk ((Nat.le_trans HW0.out (by rw [hg]; exact (kd_ (w := w) (g := g) (row := none) Q1) : w.heap.size ≤ gb219) : w0.heap.size ≤ gb219)); have n11_ := ba_.mk ((by rw [hg]; exact Nat.ne_of_lt (bg_ (g := gb207) (o := .cells #[.int .i64 0, .slice none 0 0, .slice none 0 0, .slice none 0 0] 31 (0, 0)) (Qf BK207.out)) : gb207 ≠ gb219)); have n12_ := ba_.mk ((by rw [hg]; exact Nat.ne_of_gt (bg_ (g := gb207) (o := .cells #[.int .i64 0, .slice none 0 0, .slice none 0 0, .slice none 0 0] 31 (0, 0)) (Qf BK207.out)) : gb219 ≠ gb207)); have n13_ := ba_.mk ((by rw [hg]; exact Nat.ne_of_lt (bg_ (g := gb210) (o := .cells #[.int .i64 t208, u211001, u211002, .slice none 0 0] 31 (0, 0)) (Qf BK210.out)) : gb210 ≠ gb219)); have n14_ := ba_.mk ((by rw [hg]; exact Nat.ne_of_gt (bg_ (g := gb210) (o := .cells #[.int .i64 t208, u211001, u211002, .slice none 0 0] 31 (0, 0)) (Qf BK210.out)) : gb219 ≠ gb210)); have n15_ := ba_.mk ((by rw [hg]; exact Nat.ne_of_lt (ga_.lt (show ga_ w0 _ g s0_0 t218 from by repeat (first | (with_reducible first | exact HI0.out | apply ga_.alloc | apply ga_.drewN | apply ga_.drew | apply ga_.tc_ | refine ga_.far ?_ NB0_207.out _ | refine ga_.far ?_ NB0_210.out _) | exact HI0.out))) : g ≠ gb219)); have n16_ := ba_.mk ((by rw [hg]; exact Nat.ne_of_gt (ga_.lt (show ga_ w0 _ g s0_0 t218 from by repeat (first | (with_reducible first | exact HI0.out | apply ga_.alloc | apply ga_.drewN | apply ga_.drew | apply ga_.tc_ | refine ga_.far ?_ NB0_207.out _ | refine ga_.far ?_ NB0_210.out _) | exact HI0.out))) : gb219 ≠ g)); clear HO_211001; clear HO_211002; clear HO217; clear BK207; clear BK210; clear HI0; clear HK; clear HB; have HO_211001 := n0_; have HO_211002 := n1_; have HO217 := n2_; have BK207 := n3_; have BK210 := n4_; have HI0 := n5_; have HK := n6_; have HB := n7_; have BK219 := n8_; have GW219 := n9_; have GE219 := n10_; have NB207_219 := n11_; have NB219_207 := n12_; have NB210_219 := n13_; have NB219_210 := n14_; have NB0_219 := n15_; have NB219_0 := n16_; clear n0_ n1_ n2_ n3_ n4_ n5_ n6_ n7_ n8_ n9_ n10_ n11_ n12_ n13_ n14_ n15_ n16_; clear hb hbox hg; have hnb22 := NB219_207.out; have hnc22 := NB207_219.out; have hnb23 := NB219_210.out; have hnc23 := NB210_219.out; have hnb24 := NB219_0.out; have hnc24 := NB0_219.out; have hcz25_0 : w21.cell? ⟨gb219, 0, none⟩ = some (.int .i64 0) := (la_ BK219.out 0).trans rfl; have hcz25_1 : w21.cell? ⟨gb219, 1, none⟩ = some (.int .i64 0) := (la_ BK219.out 1).trans rfl; have hcz25_2 : w21.cell? ⟨gb219, 2, none⟩ = some (.slice none 0 0) := (la_ BK219.out 2).trans rfl; have hfz25_0 := ja_ BK219.out 0; have hfz25_1 := ja_ BK219.out 1; have hfz25_2 := ja_ BK219.out 2; obtain ⟨Ao26, co26, eo26⟩ := Kd.td_ HO217.out; subst eo26) | ((with_reducible refine va_ (f := 33) rfl ?_); refine lc_ (some 27) rfl rfl Tryz.func33 Qb rfl #[.agg #[.int .i64 t213, .int .i64 t214, .slice Ao26 t215.length co26]] rfl Qm ?_; (with_reducible refine (ya_.calls k1 t213 t214 _ _ t215 t220 t223 _ ?side1 ?side2 A13.out).mono ?_); (case side1 => refine (Kd.wb_ (e := 100) (base := w.heap.size) (ok := fun k_ => ((w.heap.size ≤ k_) ∧ True)) (n := t215.length) (c := co26) ?_).2.2; exact (by (with_reducible repeat (first | apply Kd.bb_ | apply Kd.cb_ | apply Kd.sb_)); exact (Kd.fd_ (Kd.zf_ (p := ⟨gb219, 2, none⟩) (Kd.zf_ (p := ⟨gb219, 1, none⟩) (Kd.zf_ (p := ⟨gb219, 0, none⟩) (Kd.xe_ HO217.out BK219.out Qc) (fun _ hk => hk.2) (.int .i64 t213)) (fun _ hk => hk.2) (.int .i64 t214)) (fun _ hk => hk.2) (.slice Ao26 t215.length co26)) (fun _ h_ => h_.1)))); (case side2 => exact (Kd.wb_ HO217.out).2.1); rintro e w27 ⟨v221, rfl, ho0, hb⟩; refine ⟨_, rfl, ?_⟩; have n0_ := ba_.mk (Kd.te_ (by (with_reducible repeat (first | apply Kd.cc_ | apply Kd.dc_ | apply Kd.oc_)); exact (Kd.yc_ (Kd.lh_ (p := ⟨gb219, 2, none⟩) (Kd.lh_ (p := ⟨gb219, 1, none⟩) (Kd.lh_ (p := ⟨gb219, 0, none⟩) (Kd.yc_ HO_211001.out (fun k_ hk => (⟨hk, hk.2⟩ : _ ∧ k_ ≠ gb219))) (fun _ hk => hk.2) (.int .i64 t213)) (fun _ hk => hk.2) (.int .i64 t214)) (fun _ hk => hk.2) (.slice Ao26 t215.length co26)) (fun _ h_ => h_.1))) (by first | exact Kd.pi_ ho0 | exact Kd.pi_ (Kd.S_N ho0)) hb); have n1_ := ba_.mk (Kd.te_ (by (with_reducible repeat (first | apply Kd.cc_ | apply Kd.dc_ | apply Kd.oc_)); exact (Kd.yc_ (Kd.lh_ (p := ⟨gb219, 2, none⟩) (Kd.lh_ (p := ⟨gb219, 1, none⟩) (Kd.lh_ (p := ⟨gb219, 0, none⟩) (Kd.yc_ HO_211002.out (fun k_ hk => (⟨hk, hk.2⟩ : _ ∧ k_ ≠ gb219))) (fun _ hk => hk.2) (.int .i64 t213)) (fun _ hk => hk.2) (.int .i64 t214)) (fun _ hk => hk.2) (.slice Ao26 t215.length co26)) (fun _ h_ => h_.1))) (by first | exact Kd.pi_ ho0 | exact Kd.pi_ (Kd.S_N ho0)) hb); have n2_ := ba_.mk (Kd.be_ (by (with_reducible repeat (first | apply Kd.bb_ | apply Kd.cb_ | apply Kd.sb_)); exact (Kd.fd_ (Kd.zf_ (p := ⟨gb219, 2, none⟩) (Kd.zf_ (p := ⟨gb219, 1, none⟩) (Kd.zf_ (p := ⟨gb219, 0, none⟩) (Kd.xe_ HO217.out BK219.out Qc) (fun _ hk => hk.2) (.int .i64 t213)) (fun _ hk => hk.2) (.int .i64 t214)) (fun _ hk => hk.2) (.slice Ao26 t215.length co26)) (fun _ h_ => h_.1))) hb); have n3_ := ba_.mk (Kd.gj_ (Kd.yc_ (ok' := fun k_ => (w.heap.size ≤ k_) ∧ some k_ ≠ (u211001 : Value).ownBlock ∧ some k_ ≠ (u211002 : Value).ownBlock ∧ some k_ ≠ (.slice Ao26 t215.length co26 : Value).ownBlock ∧ k_ ≠ gb207 ∧ k_ ≠ gb210 ∧ k_ ≠ gb219 ∧ k_ ≠ g) (Kd.S_N (Kd.tb1_ ho0)) (fun k_ hk_ => ⟨(Nat.le_trans (kd_ (w := w) (g := g) (row := none) Yb) hk_.2.1), (Kd.fresh' (Kd.N_lt (by (with_reducible repeat (first | apply Kd.cc_ | apply Kd.dc_ | apply Kd.oc_)); exact (Kd.yc_ (Kd.lh_ (p := ⟨gb219, 2, none⟩) (Kd.lh_ (p := ⟨gb219, 1, none⟩) (Kd.lh_ (p := ⟨gb219, 0, none⟩) (Kd.yc_ HO_211001.out (fun k_ hk => (⟨hk, hk.2⟩ : _ ∧ k_ ≠ gb219))) (fun _ hk => hk.2) (.int .i64 t213)) (fun _ hk => hk.2) (.int .i64 t214)) (fun _ hk => hk.2) (.slice Ao26 t215.length co26)) (fun _ h_ => h_.1)))) k_ hk_.2.1), (Kd.fresh' (Kd.N_lt (by (with_reducible repeat (first | apply Kd.cc_ | apply Kd.dc_ | apply Kd.oc_)); exact (Kd.yc_ (Kd.lh_ (p := ⟨gb219, 2, none⟩) (Kd.lh_ (p := ⟨gb219, 1, none⟩) (Kd.lh_ (p := ⟨gb219, 0, none⟩) (Kd.yc_ HO_211002.out (fun k_ hk => (⟨hk, hk.2⟩ : _ ∧ k_ ≠ gb219))) (fun _ hk => hk.2) (.int .i64 t213)) (fun _ hk => hk.2) (.int .i64 t214)) (fun _ hk => hk.2) (.slice Ao26 t215.length co26)) (fun _ h_ => h_.1)))) k_ hk_.2.1), (Kd.fresh' (Kd.R_lt (by (with_reducible repeat (first | apply Kd.bb_ | apply Kd.cb_ | apply Kd.sb_)); exact (Kd.fd_ (Kd.zf_ (p := ⟨gb219, 2, none⟩) (Kd.zf_ (p := ⟨gb219, 1, none⟩) (Kd.zf_ (p := ⟨gb219, 0, none⟩) (Kd.xe_ HO217.out BK219.out Qc) (fun _ hk => hk.2) (.int .i64 t213)) (fun _ hk => hk.2) (.int .i64 t214)) (fun _ hk => hk.2) (.slice Ao26 t215.length co26)) (fun _ h_ => h_.1)))) k_ hk_.2.1), (Kd.ff_ (g := gb207) (o := .cells #[.int .i64 0, .slice none 0 0, .slice none 0 0, .slice none 0 0] 31 (0, 0)) (by (with_reducible repeat (first | refine ia_ ?_ _ | refine ma_ ?_ | refine ha_ ?_ _)); refine ie_ ?_ NB207_219.out _; (with_reducible repeat (first | refine ia_ ?_ _ | refine ma_ ?_ | refine ha_ ?_ _)); refine ie_ ?_ NB207_219.out _; (with_reducible repeat (first | refine ia_ ?_ _ | refine ma_ ?_ | refine ha_ ?_ _)); refine ie_ ?_ NB207_219.out _; (with_reducible repeat (first | refine ia_ ?_ _ | refine ma_ ?_ | refine ha_ ?_ _)); exact BK207.out) k_ hk_.2.1), (Kd.ff_ (g := gb210) (o := .cells #[.int .i64 t208, u211001, u211002, .slice none 0 0] 31 (0, 0)) (by (with_reducible repeat (first | refine ia_ ?_ _ | refine ma_ ?_ | refine ha_ ?_ _)); refine ie_ ?_ NB210_219.out _; (with_reducible repeat (first | refine ia_ ?_ _ | refine ma_ ?_ | refine ha_ ?_ _)); refine ie_ ?_ NB210_219.out _; (with_reducible repeat (first | refine ia_ ?_ _ | refine ma_ ?_ | refine ha_ ?_ _)); refine ie_ ?_ NB210_219.out _; (with_reducible repeat (first | refine ia_ ?_ _ | refine ma_ ?_ | refine ha_ ?_ _)); exact BK210.out) k_ hk_.2.1), (Kd.ff_ (g := gb219) (o := .cells #[.int .i64 t213, .int .i64 t214, .slice Ao26 t215.length co26] 65 (0, 0)) (by (with_reducible repeat (first | refine ia_ ?_ _ | refine ma_ ?_ | refine ha_ ?_ _)); refine sc_ (cs := #[.int .i64 t213, .int .i64 t214, .slice none 0 0]) ?_ 2 _ rfl; (with_reducible repeat (first | refine ia_ ?_ _ | refine ma_ ?_ | refine ha_ ?_ _)); refine sc_ (cs := #[.int .i64 t213, .int .i64 0, .slice none 0 0]) ?_ 1 _ rfl; (with_reducible repeat (first | refine ia_ ?_ _ | refine ma_ ?_ | refine ha_ ?_ _)); refine sc_ (cs := #[.int .i64 0, .int .i64 0, .slice none 0 0]) ?_ 0 _ rfl; (with_reducible repeat (first | refine ia_ ?_ _ | refine ma_ ?_ | refine ha_ ?_ _)); exact BK219.out) k_ hk_.2.1), (ga_.fresh (by repeat (first | (with_reducible first | exact HI0.out | apply ga_.alloc | apply ga_.drewN | apply ga_.drew | apply ga_.tc_ | refine ga_.far ?_ NB0_207.out _ | refine ga_.far ?_ NB0_210.out _ | refine ga_.far ?_ NB0_219.out _) | exact HI0.out)) k_ hk_.2.1)⟩)) (kd_ (w := w) (g := g) (row := none) Yb)); have n4_ := ba_.mk (pc_ (g := gb207) (o := .cells #[.int .i64 0, .slice none 0 0, .slice none 0 0, .slice none 0 0] 31 (0, 0)) (by (with_reducible repeat (first | refine ia_ ?_ _ | refine ma_ ?_ | refine ha_ ?_ _)); refine ie_ ?_ NB207_219.out _; (with_reducible repeat (first | refine ia_ ?_ _ | refine ma_ ?_ | refine ha_ ?_ _)); refine ie_ ?_ NB207_219.out _; (with_reducible repeat (first | refine ia_ ?_ _ | refine ma_ ?_ | refine ha_ ?_ _)); refine ie_ ?_ NB207_219.out _; (with_reducible repeat (first | refine ia_ ?_ _ | refine ma_ ?_ | refine ha_ ?_ _)); exact BK207.out) hb); have n5_ := ba_.mk (pc_ (g := gb210) (o := .cells #[.int .i64 t208, u211001, u211002, .slice none 0 0] 31 (0, 0)) (by (with_reducible repeat (first | refine ia_ ?_ _ | refine ma_ ?_ | refine ha_ ?_ _)); refine ie_ ?_ NB210_219.out _; (with_reducible repeat (first | refine ia_ ?_ _ | refine ma_ ?_ | refine ha_ ?_ _)); refine ie_ ?_ NB210_219.out _; (with_reducible repeat (first | refine ia_ ?_ _ | refine ma_ ?_ | refine ha_ ?_ _)); refine ie_ ?_ NB210_219.out _; (with_reducible repeat (first | refine ia_ ?_ _ | refine ma_ ?_ | refine ha_ ?_ _)); exact BK210.out) hb); have n6_ := ba_.mk (ga_.below (show ga_ w0 (((w21.setCell ⟨gb219, 0, none⟩ (.int .i64 t213)).setCell ⟨gb219, 1, none⟩ (.int .i64 t214)).setCell ⟨gb219, 2, none⟩ (.slice Ao26 t215.length co26)) g s0_0 t218 from by repeat (first | (with_reducible first | exact HI0.out | apply ga_.alloc | apply ga_.drewN | apply ga_.drew | apply ga_.tc_ | refine ga_.far ?_ NB0_207.out _ | refine ga_.far ?_ NB0_210.out _ | refine ga_.far ?_ NB0_219.out _) | exact HI0.out)) hb); have n7_ := ba_.mk (pc_ (g := gb219) (o := .cells #[.int .i64 t213, .int .i64 t214, .slice Ao26 t215.length co26] 65 (0, 0)) (by (with_reducible repeat (first | refine ia_ ?_ _ | refine ma_ ?_ | refine ha_ ?_ _)); refine sc_ (cs := #[.int .i64 t213, .int .i64 t214, .slice none 0 0]) ?_ 2 _ rfl; (with_reducible repeat (first | refine ia_ ?_ _ | refine ma_ ?_ | refine ha_ ?_ _)); refine sc_ (cs := #[.int .i64 t213, .int .i64 0, .slice none 0 0]) ?_ 1 _ rfl; (with_reducible repeat (first | refine ia_ ?_ _ | refine ma_ ?_ | refine ha_ ?_ _)); refine sc_ (cs := #[.int .i64 0, .int .i64 0, .slice none 0 0]) ?_ 0 _ rfl; (with_reducible repeat (first | refine ia_ ?_ _ | refine ma_ ?_ | refine ha_ ?_ _)); exact BK219.out) hb); have n8_ := ba_.mk (ra_.trans Yb (ra_.sf_ hb g none) (.inl rfl)); have n9_ := ba_.mk (hb_ (by repeat (first | (with_reducible first | exact HB.out | apply da_ | apply aa_ | apply ca_ | refine fa_ ?_ (ga_.ge HI0.out) | refine fa_ ?_ GE207.out | refine fa_ ?_ GE210.out | refine fa_ ?_ GE219.out) | exact HB.out)) hb); clear HO_211001; clear HO_211002; clear HO217; clear BK207; clear BK210; clear HI0; clear BK219; clear HK; clear HB; have HO_211001 := n0_; have HO_211002 := n1_; have HO217 := n2_; have HO222 := n3_; have BK207 := n4_; have BK210 := n5_; have HI0 := n6_; have BK219 := n7_; have HK := n8_; have HB := n9_; clear n0_ n1_ n2_ n3_ n4_ n5_ n6_ n7_ n8_ n9_; (try clear hb); (try clear hb2); (try clear hk); (try clear hi); (try clear ho0)) | ((with_reducible refine ld_ (N := 8) rfl ?_); refine de_ ?hg (N := 8) ?hd (cs := #[.slice none 0 0]) (t := 60) ?hr ?_; (case hd => rfl); (case hg => rfl); (case hr => exact Qt); intro gb224 hg w28 hbox hb; have n0_ := ba_.mk (Kd.xf_ (Kd.bk_ (Qp HO_211001.out) gb224 (Nat.le_of_eq hg.symm)) hb); have n1_ := ba_.mk (Kd.xf_ (Kd.bk_ (Qp HO_211002.out) gb224 (Nat.le_of_eq hg.symm)) hb); have n2_ := ba_.mk (Kd.be_ (Qk HO217.out) hb); have n3_ := ba_.mk (Kd.xf_ (Kd.bk_ (Qp HO222.out) gb224 (Nat.le_of_eq hg.symm)) hb); have n4_ := ba_.mk (pc_ (g := gb207) (o := .cells #[.int .i64 0, .slice none 0 0, .slice none 0 0, .slice none 0 0] 31 (0, 0)) (Qf BK207.out) hb); have n5_ := ba_.mk (pc_ (g := gb210) (o := .cells #[.int .i64 t208, u211001, u211002, .slice none 0 0] 31 (0, 0)) (Qf BK210.out) hb); have n6_ := ba_.mk (ga_.below (by repeat (first | (with_reducible first | exact HI0.out | apply ga_.alloc | apply ga_.drewN | apply ga_.drew | apply ga_.tc_ | refine ga_.far ?_ NB0_207.out _ | refine ga_.far ?_ NB0_210.out _ | refine ga_.far ?_ NB0_219.out _) | exact HI0.out)) hb); have n7_ := ba_.mk (pc_ (g := gb219) (o := .cells #[.int .i64 t213, .int .i64 t214, .slice Ao26 t215.length co26] 65 (0, 0)) (Qf BK219.out) hb); have n8_ := ba_.mk (ra_.trans Yb (ra_.sf_ hb g none) (.inl rfl)); have n9_ := ba_.mk (hb_ (by repeat (first | (with_reducible first | exact HB.out | apply da_ | apply aa_ | apply ca_ | refine fa_ ?_ (ga_.ge HI0.out) | refine fa_ ?_ GE207.out | refine fa_ ?_ GE210.out | refine fa_ ?_ GE219.out) | exact HB.out)) hb); have n10_ := ba_.mk (hbox); have n11_ := ba_.mk ((by rw [hg]; exact (kd_ (w := w) (g := g) (row := none) Yb) : w.heap.size ≤ gb224)); have n12_ := ba_.mk ((Nat.le_trans HW0.out (by rw [hg]; exact (kd_ (w := w) (g := g) (row := none) Yb) : w.heap.size ≤ gb224) : w0.heap.size ≤ gb224)); have n13_ := ba_.mk ((by rw [hg]; exact Nat.ne_of_lt (bg_ (g := gb207) (o := .cells #[.int .i64 0, .slice none 0 0, .slice none 0 0, .slice none 0 0] 31 (0, 0)) (Qf BK207.out)) : gb207 ≠ gb224)); have n14_ := ba_.mk ((by rw [hg]; exact Nat.ne_of_gt (bg_ (g := gb207) (o := .cells #[.int .i64 0, .slice none 0 0, .slice none 0 0, .slice none 0 0] 31 (0, 0)) (Qf BK207.out)) : gb224 ≠ gb207)); have n15_ := ba_.mk ((by rw [hg]; exact Nat.ne_of_lt (bg_ (g := gb210) (o := .cells #[.int .i64 t208, u211001, u211002, .slice none 0 0] 31 (0, 0)) (Qf BK210.out)) : gb210 ≠ gb224)); have n16_ := ba_.mk ((by rw [hg]; exact Nat.ne_of_gt (bg_ (g := gb210) (o := .cells #[.int .i64 t208, u211001, u211002, .slice none 0 0] 31 (0, 0)) (Qf BK210.out)) : gb224 ≠ gb210)); have n17_ := ba_.mk ((by rw [hg]; exact Nat.ne_of_lt (bg_ (g := gb219) (o := .cells #[.int .i64 t213, .int .i64 t214, .slice Ao26 t215.length co26] 65 (0, 0)) (Qf BK219.out)) : gb219 ≠ gb224)); have n18_ := ba_.mk ((by rw [hg]; exact Nat.ne_of_gt (bg_ (g := gb219) (o := .cells #[.int .i64 t213, .int .i64 t214, .slice Ao26 t215.length co26] 65 (0, 0)) (Qf BK219.out)) : gb224 ≠ gb219)); have n19_ := ba_.mk ((by rw [hg]; exact Nat.ne_of_lt (ga_.lt (show ga_ w0 _ g s0_0 t218 from by repeat (first | (with_reducible first | exact HI0.out | apply ga_.alloc | apply ga_.drewN | apply ga_.drew | apply ga_.tc_ | refine ga_.far ?_ NB0_207.out _ | refine ga_.far ?_ NB0_210.out _ | refine ga_.far ?_ NB0_219.out _) | exact HI0.out))) : g ≠ gb224)); have n20_ := ba_.mk ((by rw [hg]; exact Nat.ne_of_gt (ga_.lt (show ga_ w0 _ g s0_0 t218 from by repeat (first | (with_reducible first | exact HI0.out | apply ga_.alloc | apply ga_.drewN | apply ga_.drew | apply ga_.tc_ | refine ga_.far ?_ NB0_207.out _ | refine ga_.far ?_ NB0_210.out _ | refine ga_.far ?_ NB0_219.out _) | exact HI0.out))) : gb224 ≠ g)); clear HO_211001; clear HO_211002; clear HO217; clear HO222; clear BK207; clear BK210; clear HI0; clear BK219; clear HK; clear HB; have HO_211001 := n0_; have HO_211002 := n1_; have HO217 := n2_; have HO222 := n3_; have BK207 := n4_; have BK210 := n5_; have HI0 := n6_; have BK219 := n7_; have HK := n8_; have HB := n9_; have BK224 := n10_; have GW224 := n11_; have GE224 := n12_; have NB207_224 := n13_; have NB224_207 := n14_; have NB210_224 := n15_; have NB224_210 := n16_; have NB219_224 := n17_; have NB224_219 := n18_; have NB0_224 := n19_; have NB224_0 := n20_; clear n0_ n1_ n2_ n3_ n4_ n5_ n6_ n7_ n8_ n9_ n10_ n11_ n12_ n13_ n14_ n15_ n16_ n17_ n18_ n19_ n20_; clear hb hbox hg; obtain ⟨Ao29, co29, eo29⟩ := Kd.og_ HO222.out; subst eo29; have hnb30 := NB224_207.out; have hnc30 := NB207_224.out; have hnb31 := NB224_210.out; have hnc31 := NB210_224.out; have hnb32 := NB224_219.out; have hnc32 := NB219_224.out; have hnb33 := NB224_0.out; have hnc33 := NB0_224.out; have hcz34_0 : w28.cell? ⟨gb224, 0, none⟩ = some (.slice none 0 0) := (la_ BK224.out 0).trans rfl; have hfz34_0 := ja_ BK224.out 0; obtain ⟨Ao35, co35, eo35⟩ := Kd.og_ HO_211001.out; subst eo35; obtain ⟨Ao36, co36, eo36⟩ := Kd.og_ HO_211002.out; subst eo36))
   have n0_ : ba_ (Kd.N k65 65 (w28.setCell ⟨gb224, 0, none⟩ (.slice Ao29 t220.length co29)) w.heap.size (fun k_ => (w.heap.size ≤ k_) ∧ some k_ ≠ (.slice Ao36 x211002_1.length co36 : Value).ownBlock ∧ some k_ ≠ (.slice Ao26 t215.length co26 : Value).ownBlock ∧ some k_ ≠ (.slice Ao29 t220.length co29 : Value).ownBlock ∧ k_ ≠ gb207 ∧ k_ ≠ gb210 ∧ k_ ≠ g ∧ k_ ≠ gb219 ∧ k_ ≠ gb224) (.slice Ao35 x211001_1.length co35) x211001_1) := ⟨by (with_reducible repeat (first | apply Kd.cc_ | apply Kd.dc_ | apply Kd.oc_)); exact Kd.yc_ (Kd.lh_ (p := ⟨gb224, 0, none⟩) (Kd.yc_ HO_211001.out (fun k_ hk => (⟨hk, hk.2⟩ : _ ∧ k_ ≠ gb224))) (fun _ hk => hk.2) (.slice Ao29 t220.length co29)) (fun _ hk => ⟨hk.1.1.1.1.1.1, ⟨hk.1.1.1.1.1.2.1, ⟨hk.1.1.1.1.2, ⟨hk.1.1.2, ⟨hk.1.1.1.1.1.2.2.1, ⟨hk.1.1.1.1.1.2.2.2.1, ⟨hk.1.1.1.1.1.2.2.2.2, ⟨hk.1.1.1.2, hk.1.2⟩⟩⟩⟩⟩⟩⟩⟩)⟩
   have n1_ : ba_ (Kd.N k60 60 (w28.setCell ⟨gb224, 0, none⟩ (.slice Ao29 t220.length co29)) w.heap.size (fun k_ => (w.heap.size ≤ k_) ∧ some k_ ≠ (.slice Ao35 x211001_1.length co35 : Value).ownBlock ∧ some k_ ≠ (.slice Ao26 t215.length co26 : Value).ownBlock ∧ some k_ ≠ (.slice Ao29 t220.length co29 : Value).ownBlock ∧ k_ ≠ gb207 ∧ k_ ≠ gb210 ∧ k_ ≠ g ∧ k_ ≠ gb219 ∧ k_ ≠ gb224) (.slice Ao36 x211002_1.length co36) x211002_1) := ⟨by (with_reducible repeat (first | apply Kd.cc_ | apply Kd.dc_ | apply Kd.oc_)); exact Kd.yc_ (Kd.lh_ (p := ⟨gb224, 0, none⟩) (Kd.yc_ HO_211002.out (fun k_ hk => (⟨hk, hk.2⟩ : _ ∧ k_ ≠ gb224))) (fun _ hk => hk.2) (.slice Ao29 t220.length co29)) (fun _ hk => ⟨hk.1.1.1.1.1.1, ⟨hk.1.1.1.1.1.2.1, ⟨hk.1.1.1.1.2, ⟨hk.1.1.2, ⟨hk.1.1.1.1.1.2.2.1, ⟨hk.1.1.1.1.1.2.2.2.1, ⟨hk.1.1.1.1.1.2.2.2.2, ⟨hk.1.1.1.2, hk.1.2⟩⟩⟩⟩⟩⟩⟩⟩)⟩
   have n2_ : ba_ (Kd.R k100 100 (w28.setCell ⟨gb224, 0, none⟩ (.slice Ao29 t220.length co29)) w.heap.size (fun k_ => (w.heap.size ≤ k_)) (.slice Ao26 t215.length co26) t215) := ⟨by (with_reducible repeat (first | apply Kd.bb_ | apply Kd.cb_ | apply Kd.sb_)); exact Kd.fd_ (Kd.zf_ (p := ⟨gb224, 0, none⟩) (Kd.xe_ HO217.out BK224.out Qc) (fun _ hk => hk.2) (.slice Ao29 t220.length co29)) (fun _ hk => hk.1.1)⟩
   have n3_ : ba_ (Kd.N (Kd.slice 3 (Kd.int .i64)) 22 (w28.setCell ⟨gb224, 0, none⟩ (.slice Ao29 t220.length co29)) w.heap.size (fun k_ => (w.heap.size ≤ k_) ∧ some k_ ≠ (.slice Ao35 x211001_1.length co35 : Value).ownBlock ∧ some k_ ≠ (.slice Ao36 x211002_1.length co36 : Value).ownBlock ∧ some k_ ≠ (.slice Ao26 t215.length co26 : Value).ownBlock ∧ k_ ≠ gb207 ∧ k_ ≠ gb210 ∧ k_ ≠ gb219 ∧ k_ ≠ g ∧ k_ ≠ gb224) (.slice Ao29 t220.length co29) t220) := ⟨by (with_reducible repeat (first | apply Kd.cc_ | apply Kd.dc_ | apply Kd.oc_)); exact Kd.yc_ (Kd.lh_ (p := ⟨gb224, 0, none⟩) (Kd.yc_ HO222.out (fun k_ hk => (⟨hk, hk.2⟩ : _ ∧ k_ ≠ gb224))) (fun _ hk => hk.2) (.slice Ao29 t220.length co29)) (fun _ hk => ⟨hk.1.1.1, ⟨hk.1.1.2.1, ⟨hk.1.1.2.2.1, ⟨hk.1.1.2.2.2.1, ⟨hk.1.1.2.2.2.2.1, ⟨hk.1.1.2.2.2.2.2.1, ⟨hk.1.1.2.2.2.2.2.2.1, ⟨hk.1.1.2.2.2.2.2.2.2, hk.1.2⟩⟩⟩⟩⟩⟩⟩⟩)⟩
   have n4_ : ba_ ((w28.setCell ⟨gb224, 0, none⟩ (.slice Ao29 t220.length co29)).heap[gb207]? = some (.cells #[.int .i64 0, .slice none 0 0, .slice none 0 0, .slice none 0 0] 31 (0, 0))) := ⟨by (with_reducible repeat (first | refine ia_ ?_ _ | refine ma_ ?_ | refine ha_ ?_ _)); refine ie_ ?_ NB207_224.out _; (with_reducible repeat (first | refine ia_ ?_ _ | refine ma_ ?_ | refine ha_ ?_ _)); exact BK207.out⟩
   have n5_ : ba_ ((w28.setCell ⟨gb224, 0, none⟩ (.slice Ao29 t220.length co29)).heap[gb210]? = some (.cells #[.int .i64 t208, .slice Ao35 x211001_1.length co35, .slice Ao36 x211002_1.length co36, .slice none 0 0] 31 (0, 0))) := ⟨by (with_reducible repeat (first | refine ia_ ?_ _ | refine ma_ ?_ | refine ha_ ?_ _)); refine ie_ ?_ NB210_224.out _; (with_reducible repeat (first | refine ia_ ?_ _ | refine ma_ ?_ | refine ha_ ?_ _)); exact BK210.out⟩
   have n6_ : ba_ ((w28.setCell ⟨gb224, 0, none⟩ (.slice Ao29 t220.length co29)).heap[gb219]? = some (.cells #[.int .i64 t213, .int .i64 t214, .slice Ao26 t215.length co26] 65 (0, 0))) := ⟨by (with_reducible repeat (first | refine ia_ ?_ _ | refine ma_ ?_ | refine ha_ ?_ _)); refine ie_ ?_ NB219_224.out _; (with_reducible repeat (first | refine ia_ ?_ _ | refine ma_ ?_ | refine ha_ ?_ _)); exact BK219.out⟩
   have n7_ : ba_ ((w28.setCell ⟨gb224, 0, none⟩ (.slice Ao29 t220.length co29)).heap[gb224]? = some (.cells #[.slice Ao29 t220.length co29] 60 (0, 0))) := ⟨by (with_reducible repeat (first | refine ia_ ?_ _ | refine ma_ ?_ | refine ha_ ?_ _)); refine sc_ (cs := #[.slice none 0 0]) ?_ 0 _ rfl; (with_reducible repeat (first | refine ia_ ?_ _ | refine ma_ ?_ | refine ha_ ?_ _)); exact BK224.out⟩
   have n8_ : ba_ (ga_ w0 (w28.setCell ⟨gb224, 0, none⟩ (.slice Ao29 t220.length co29)) g s0_0 t218) := ⟨Q4⟩
   have n9_ : ba_ (ra_ w (w28.setCell ⟨gb224, 0, none⟩ (.slice Ao29 t220.length co29)) g none) := ⟨Q0⟩
   have n10_ : ba_ (Below w0.heap.size w0 (w28.setCell ⟨gb224, 0, none⟩ (.slice Ao29 t220.length co29))) := ⟨Xb⟩
   (try clear HO_211001)
   (try clear HO_211002)
   (try clear HO217)
   (try clear HO222)
   (try clear BK207)
   (try clear BK210)
   (try clear BK219)
   (try clear BK224)
   (try clear HI0)
   (try clear HK)
   (try clear HB)
   generalize (w28.setCell ⟨gb224, 0, none⟩ (.slice Ao29 t220.length co29)) = w37 at n0_ n1_ n2_ n3_ n4_ n5_ n6_ n7_ n8_ n9_ n10_ ⊢
   have HO_211001 := n0_
   have HO_211002 := n1_
   have HO217 := n2_
   have HO222 := n3_
   have BK207 := n4_
   have BK210 := n5_
   have BK219 := n6_
   have BK224 := n7_
   have HI0 := n8_
   have HK := n9_
   have HB := n10_
   clear n0_ n1_ n2_ n3_ n4_ n5_ n6_ n7_ n8_ n9_ n10_
   have n0_ := ba_.mk (Kd.oc_ HO_211001.out)
   have n1_ := ba_.mk (Kd.oc_ HO_211002.out)
   have n2_ := ba_.mk (Kd.sb_ HO217.out)
   have n3_ := ba_.mk (Kd.oc_ HO222.out)
   have n4_ := ba_.mk (ma_ BK207.out)
   have n5_ := ba_.mk (ma_ BK210.out)
   have n6_ := ba_.mk (ma_ BK219.out)
   have n7_ := ba_.mk (ma_ BK224.out)
   have n8_ := ba_.mk (ga_.drew HI0.out)
   have n9_ := ba_.mk (qb_ HK.out)
   have n10_ := ba_.mk (ca_ HB.out)
   clear HO_211001
   clear HO_211002
   clear HO217
   clear HO222
   clear BK207
   clear BK210
   clear BK219
   clear BK224
   clear HI0
   clear HK
   clear HB
   have HO_211001 := n0_
   have HO_211002 := n1_
   have HO217 := n2_
   have HO222 := n3_
   have BK207 := n4_
   have BK210 := n5_
   have BK219 := n6_
   have BK224 := n7_
   have HI0 := n8_
   have HK := n9_
   have HB := n10_
   clear n0_ n1_ n2_ n3_ n4_ n5_ n6_ n7_ n8_ n9_ n10_
   refine ei_ (n := 14) (S := fun w' => w'.cell? ⟨gb210, 0, none⟩ = some (.int .i64 t208) ∧ w'.cell? ⟨gb210, 1, none⟩ = some (.slice Ao35 x211001_1.length co35) ∧ w'.cell? ⟨gb210, 2, none⟩ = some (.slice Ao36 x211002_1.length co36) ∧ w'.cell? ⟨gb210, 3, none⟩ = some (.slice none 0 0) ∧ w'.cell? ⟨gb219, 0, none⟩ = some (.int .i64 t213) ∧ w'.cell? ⟨gb219, 1, none⟩ = some (.int .i64 t214) ∧ w'.cell? ⟨gb219, 2, none⟩ = some (.slice Ao26 t215.length co26) ∧ w'.cell? ⟨gb224, 0, none⟩ = some (.slice Ao29 t220.length co29)) (ds := [11, 13]) Qav Qb rfl rfl ⟨(la_ BK210.out 0).trans rfl, (la_ BK210.out 1).trans rfl, (la_ BK210.out 2).trans rfl, (la_ BK210.out 3).trans rfl, (la_ BK219.out 0).trans rfl, (la_ BK219.out 1).trans rfl, (la_ BK219.out 2).trans rfl, (la_ BK224.out 0).trans rfl⟩ (fun hHeld => ?_); refine wh_ ka_.tab7 ka_.bits7 (fun HT_ HW_ => ?_)
   generalize w37.drew = w38 at HO_211001 HO_211002 HO217 HO222 BK207 BK210 BK219 BK224 HI0 HK HB hHeld ⊢
   refine qc_ (i := 0) (N := some 30) (v := ?_) (a' := ?_) Qaw rfl rfl Qn Qe (Or.inl ⟨by rfl, ?_⟩) ?_ ?_
   rotate_left
   ·exact Qg
   rotate_left
   ·exact Qd
   refine qc_ (i := 5) (N := some 35) (v := ?_) (a' := ?_) #[true, false, false, false, false, true, false, false, false, false, false, false, false, false] rfl rfl Qn Qe (Or.inl ⟨by rfl, ?_⟩) ?_ ?_
   rotate_left
   ·exact Qg
   rotate_left
   ·exact Qd
   refine wf_ (i := 1) (N := some 31) (v := ?_) (a' := ?_) #[true, true, false, false, false, true, false, false, false, false, false, false, false, false] rfl rfl (ve_ HT_.out HW_.out Qb) Qe (Or.inl ⟨by rfl, ?_⟩) hHeld ?_ ?_
   rotate_left
   ·exact Yx
   rotate_left
   ·exact Qd
   refine wf_ (i := 2) (N := some 32) (v := ?_) (a' := ?_) #[true, true, true, false, false, true, false, false, false, false, false, false, false, false] rfl rfl (ve_ HT_.out HW_.out Qb) Qe (Or.inl ⟨by rfl, ?_⟩) hHeld ?_ ?_
   rotate_left
   ·exact Yx
   rotate_left
   ·exact Qd
   refine wf_ (i := 6) (N := some 36) (v := ?_) (a' := ?_) #[true, true, true, false, false, true, true, false, false, false, false, false, false, false] rfl rfl (ve_ HT_.out HW_.out Qb) Qe (Or.inl ⟨by rfl, ?_⟩) hHeld ?_ ?_
   rotate_left
   ·exact Yx
   rotate_left
   ·exact Qd
   refine wf_ (i := 7) (N := some 37) (v := ?_) (a' := ?_) #[true, true, true, false, false, true, true, true, false, false, false, false, false, false] rfl rfl (ve_ HT_.out HW_.out Qb) Qe (Or.inl ⟨by rfl, ?_⟩) hHeld ?_ ?_
   rotate_left
   ·exact Yx
   rotate_left
   ·exact Qd
   refine join_ (σ := Value × Value × Value) 4 Y3 (fun s_ => [(33, s_.1), (34, s_.2.1), (38, s_.2.2), (40, .pointer (some ⟨gb210, 1, none⟩))]) (fun s_ w' => (w'.cell? ⟨gb210, 0, none⟩ = some (.int .i64 t208) ∧ w'.cell? ⟨gb210, 1, none⟩ = some (.slice Ao35 x211001_1.length co35) ∧ w'.cell? ⟨gb210, 2, none⟩ = some (.slice Ao36 x211002_1.length co36) ∧ w'.cell? ⟨gb210, 3, none⟩ = some (.slice none 0 0) ∧ w'.cell? ⟨gb219, 0, none⟩ = some (.int .i64 t213) ∧ w'.cell? ⟨gb219, 1, none⟩ = some (.int .i64 t214) ∧ w'.cell? ⟨gb219, 2, none⟩ = some (.slice Ao26 t215.length co26) ∧ w'.cell? ⟨gb224, 0, none⟩ = some (.slice Ao29 t220.length co29)) ∧ (Kd.N k65 65 w' w.heap.size (fun k_ => (w.heap.size ≤ k_) ∧ some k_ ≠ (s_.2.1 : Value).ownBlock ∧ some k_ ≠ (s_.2.2 : Value).ownBlock ∧ some k_ ≠ (.slice Ao36 x211002_1.length co36 : Value).ownBlock ∧ k_ ≠ g ∧ k_ ≠ gb207 ∧ k_ ≠ gb210 ∧ k_ ≠ gb219 ∧ k_ ≠ gb224) s_.1 y225) ∧ (Kd.N k65 65 w' w.heap.size (fun k_ => (w.heap.size ≤ k_) ∧ some k_ ≠ (s_.2.2 : Value).ownBlock ∧ some k_ ≠ (.slice Ao36 x211002_1.length co36 : Value).ownBlock ∧ k_ ≠ g ∧ k_ ≠ gb207 ∧ k_ ≠ gb210 ∧ k_ ≠ gb219 ∧ k_ ≠ gb224) s_.2.1 y228) ∧ (Kd.N k60 60 w' w.heap.size (fun k_ => (w.heap.size ≤ k_) ∧ some k_ ≠ (s_.1 : Value).ownBlock ∧ some k_ ≠ (s_.2.1 : Value).ownBlock ∧ some k_ ≠ (.slice Ao36 x211002_1.length co36 : Value).ownBlock ∧ k_ ≠ g ∧ k_ ≠ gb207 ∧ k_ ≠ gb210 ∧ k_ ≠ gb219 ∧ k_ ≠ gb224) s_.2.2 y231) ∧ (Kd.N k60 60 w' w.heap.size (fun k_ => (w.heap.size ≤ k_) ∧ some k_ ≠ (s_.1 : Value).ownBlock ∧ some k_ ≠ (s_.2.1 : Value).ownBlock ∧ some k_ ≠ (s_.2.2 : Value).ownBlock ∧ k_ ≠ g ∧ k_ ≠ gb207 ∧ k_ ≠ gb210 ∧ k_ ≠ gb219 ∧ k_ ≠ gb224) (.slice Ao36 x211002_1.length co36) x211002_1) ∧ (w'.heap[gb207]? = some (.cells #[.int .i64 0, .slice none 0 0, .slice none 0 0, .slice none 0 0] 31 (0, 0))) ∧ (w'.heap[gb210]? = some (.cells #[.int .i64 t208, .slice Ao35 x211001_1.length co35, .slice Ao36 x211002_1.length co36, .slice none 0 0] 31 (0, 0))) ∧ (w'.heap[gb219]? = some (.cells #[.int .i64 t213, .int .i64 t214, .slice Ao26 t215.length co26] 65 (0, 0))) ∧ (w'.heap[gb224]? = some (.cells #[.slice Ao29 t220.length co29] 60 (0, 0))) ∧ (ga_ w0 w' g s0_0 t218) ∧ (ra_ w w' g none) ∧ (Below w0.heap.size w0 w')) ?_ ?_
   rotate_left
   ·intro hCont
    refine two_ (i := 3) (j := 8) (Ni := some 33) (Nj := some 38) #[true, true, true, true, false, true, true, true, false, false, false, false, false, false] #[true, true, true, false, false, true, true, true, true, false, false, false, false, false] rfl rfl rfl rfl (hi1_ HT_.out Qb) Qc Qc (fun K hK => ?_) (fun K hK => ?_)
    ·skip
     refine Kd.tk_ k65 _ 65 ?hg_343 (N' := 33) ?hd_343 (xs := ([(⟨t213, t214, t215⟩ : S65)] : List (S65))) (inner := [.int .i64 t213, .int .i64 t214, .slice Ao26 t215.length co26]) (ok := (fun k_ => (w.heap.size ≤ k_) ∧ some k_ ≠ (.slice Ao35 x211001_1.length co35 : Value).ownBlock ∧ some k_ ≠ (.slice Ao36 x211002_1.length co36 : Value).ownBlock ∧ some k_ ≠ (.slice Ao29 t220.length co29 : Value).ownBlock ∧ k_ ≠ gb207 ∧ k_ ≠ gb210 ∧ k_ ≠ gb219 ∧ k_ ≠ gb224 ∧ k_ ≠ g)) (okp := (fun k_ => (w.heap.size ≤ k_) ∧ some k_ ≠ (.slice Ao35 x211001_1.length co35 : Value).ownBlock ∧ some k_ ≠ (.slice Ao36 x211002_1.length co36 : Value).ownBlock ∧ some k_ ≠ (.slice Ao29 t220.length co29 : Value).ownBlock ∧ k_ ≠ gb207 ∧ k_ ≠ gb210 ∧ k_ ≠ gb219 ∧ k_ ≠ gb224 ∧ k_ ≠ g)) ?hr_343 ?hp_343 (fun _ hk => hk) ((show ∀ k_, w38.heap.size ≤ k_ → (fun k_ => (w.heap.size ≤ k_) ∧ some k_ ≠ (.slice Ao35 x211001_1.length co35 : Value).ownBlock ∧ some k_ ≠ (.slice Ao36 x211002_1.length co36 : Value).ownBlock ∧ some k_ ≠ (.slice Ao29 t220.length co29 : Value).ownBlock ∧ k_ ≠ gb207 ∧ k_ ≠ gb210 ∧ k_ ≠ gb219 ∧ k_ ≠ gb224 ∧ k_ ≠ g) k_ from fun k_ hk => ⟨(Nat.le_trans (kd_ (w := w) (g := g) (row := none) Q0) hk), Kd.fresh' (Kd.N_lt (Qp HO_211001.out)) k_ hk, Kd.fresh' (Kd.N_lt (Qp HO_211002.out)) k_ hk, Kd.fresh' (Kd.N_lt (Qp HO222.out)) k_ hk, Kd.ff_ (g := gb207) (o := .cells #[.int .i64 0, .slice none 0 0, .slice none 0 0, .slice none 0 0] 31 (0, 0)) (Qf BK207.out) k_ hk, Kd.ff_ (g := gb210) (o := .cells #[.int .i64 t208, .slice Ao35 x211001_1.length co35, .slice Ao36 x211002_1.length co36, .slice none 0 0] 31 (0, 0)) (Qf BK210.out) k_ hk, Kd.ff_ (g := gb219) (o := .cells #[.int .i64 t213, .int .i64 t214, .slice Ao26 t215.length co26] 65 (0, 0)) (Qf BK219.out) k_ hk, Kd.ff_ (g := gb224) (o := .cells #[.slice Ao29 t220.length co29] 60 (0, 0)) (Qf BK224.out) k_ hk, ga_.fresh Q4 k_ hk⟩) _ (Nat.le_refl _)) (Below.refl _ _) (Nat.le_refl _) Qj ?_; (case hd_343 => rfl); (case hg_343 => rfl); (case hr_343 => exact Qt); (case hp_343 => exact (Reps.c3 (show Kd.FK k65 _ _ (⟨t213, t214, t215⟩ : S65) [.int .i64 t213, .int .i64 t214, .slice Ao26 t215.length co26] from (hd1_ _ _ (⟨t213, t214, t215⟩ : S65) (Kd.wb_ (Kd.fd_ (ok' := (fun k_ => (w.heap.size ≤ k_) ∧ some k_ ≠ (.slice Ao35 x211001_1.length co35 : Value).ownBlock ∧ some k_ ≠ (.slice Ao36 x211002_1.length co36 : Value).ownBlock ∧ some k_ ≠ (.slice Ao29 t220.length co29 : Value).ownBlock ∧ k_ ≠ gb207 ∧ k_ ≠ gb210 ∧ k_ ≠ gb219 ∧ k_ ≠ gb224 ∧ k_ ≠ g)) (ga_.apart HI0.out (Kd.xe_ (Kd.xe_ (Kd.xe_ (Kd.xe_ (Kd.ne_ (Kd.ne_ (Kd.ne_ (HO217.out) (Kd.lg_ HO_211001.out) Qc) (Kd.lg_ HO_211002.out) Qc) (Kd.lg_ HO222.out) Qc) BK207.out Qc) BK210.out Qc) BK219.out Qc) BK224.out Qc) Qc) (fun k_ hk => ⟨hk.1.1.1.1.1.1.1.1, ⟨hk.1.1.1.1.1.1.1.2, ⟨hk.1.1.1.1.1.1.2, ⟨hk.1.1.1.1.1.2, ⟨hk.1.1.1.1.2, ⟨hk.1.1.1.2, ⟨hk.1.1.2, ⟨hk.1.2, hk.2⟩⟩⟩⟩⟩⟩⟩⟩))).2.1 (Kd.R_F (Kd.fd_ (ok' := (fun k_ => (w.heap.size ≤ k_) ∧ some k_ ≠ (.slice Ao35 x211001_1.length co35 : Value).ownBlock ∧ some k_ ≠ (.slice Ao36 x211002_1.length co36 : Value).ownBlock ∧ some k_ ≠ (.slice Ao29 t220.length co29 : Value).ownBlock ∧ k_ ≠ gb207 ∧ k_ ≠ gb210 ∧ k_ ≠ gb219 ∧ k_ ≠ gb224 ∧ k_ ≠ g)) (ga_.apart HI0.out (Kd.xe_ (Kd.xe_ (Kd.xe_ (Kd.xe_ (Kd.ne_ (Kd.ne_ (Kd.ne_ (HO217.out) (Kd.lg_ HO_211001.out) Qc) (Kd.lg_ HO_211002.out) Qc) (Kd.lg_ HO222.out) Qc) BK207.out Qc) BK210.out Qc) BK219.out Qc) BK224.out Qc) Qc) (fun k_ hk => ⟨hk.1.1.1.1.1.1.1.1, ⟨hk.1.1.1.1.1.1.1.2, ⟨hk.1.1.1.1.1.1.2, ⟨hk.1.1.1.1.1.2, ⟨hk.1.1.1.1.2, ⟨hk.1.1.1.2, ⟨hk.1.1.2, ⟨hk.1.2, hk.2⟩⟩⟩⟩⟩⟩⟩⟩))))) (Reps.none _ _)))
     intro v226 w39 ho40 hb hg_ hnew_
     clear hg_ hnew_
     (first | rw [← Ny225.out] at ho40 | (simp only [Int.reduceToNat] at ho40; rw [← Ny225.out] at ho40))
     have n0_ := ba_.mk (Kd.te_ (Qp HO_211001.out) (Kd.pi_ ho40) hb)
     have n1_ := ba_.mk (Kd.te_ (Qp HO_211002.out) (Kd.pi_ ho40) hb)
     have n2_ := ba_.mk (Kd.te_ (Qp HO222.out) (Kd.pi_ ho40) hb)
     have n3_ := ba_.mk (Kd.gj_ ho40 (kd_ (w := w) (g := g) (row := none) Q0))
     have n4_ := ba_.mk (pc_ (g := gb207) (o := .cells #[.int .i64 0, .slice none 0 0, .slice none 0 0, .slice none 0 0] 31 (0, 0)) (Qf BK207.out) hb)
     have n5_ := ba_.mk (pc_ (g := gb210) (o := .cells #[.int .i64 t208, .slice Ao35 x211001_1.length co35, .slice Ao36 x211002_1.length co36, .slice none 0 0] 31 (0, 0)) (Qf BK210.out) hb)
     have n6_ := ba_.mk (ga_.below Q4 hb)
     have n7_ := ba_.mk (pc_ (g := gb219) (o := .cells #[.int .i64 t213, .int .i64 t214, .slice Ao26 t215.length co26] 65 (0, 0)) (Qf BK219.out) hb)
     have n8_ := ba_.mk (pc_ (g := gb224) (o := .cells #[.slice Ao29 t220.length co29] 60 (0, 0)) (Qf BK224.out) hb)
     have n9_ := ba_.mk (ra_.trans Q0 (ra_.sf_ hb g none) (.inl rfl))
     have n10_ := ba_.mk (hb_ Xb hb)
     clear HO_211001
     clear HO_211002
     clear HO222
     clear BK207
     clear BK210
     clear HI0
     clear BK219
     clear BK224
     clear HK
     clear HB
     clear HO217
     have HO_211001 := n0_
     have HO_211002 := n1_
     have HO222 := n2_
     have HO227 := n3_
     have BK207 := n4_
     have BK210 := n5_
     have HI0 := n6_
     have BK219 := n7_
     have BK224 := n8_
     have HK := n9_
     have HB := n10_
     clear n0_ n1_ n2_ n3_ n4_ n5_ n6_ n7_ n8_ n9_ n10_
     clear hb ho40
     obtain ⟨Ao42, co42, eo42⟩ := Kd.og_ HO227.out
     (first | subst eo42 | (injection eo42 with f1_ f2_ f3_; have f4_ := f1_.symm; have f5_ := f3_.symm; clear f1_ f2_ f3_; subst f4_; subst f5_))
     refine hK.out _ _ ⟨(la_ BK210.out 0).trans rfl, (la_ BK210.out 1).trans rfl, (la_ BK210.out 2).trans rfl, (la_ BK210.out 3).trans rfl, (la_ BK219.out 0).trans rfl, (la_ BK219.out 1).trans rfl, (la_ BK219.out 2).trans rfl, (la_ BK224.out 0).trans rfl⟩ (fun hHeld => ?_)
     clear hK K
     refine ug_ (a' := ?_) ?_ ?_
     rotate_left
     ·show Act.put _ (some 33) _ = _
      simp only [Act.put, List.setIfInBounds_toArray, List.set_cons_zero, List.set_cons_succ, yb_, ac_]
      rfl
     refine two_ (i := 4) (j := 8) (Ni := some 34) (Nj := some 38) #[true, true, true, true, true, true, true, true, false, false, false, false, false, false] Qa2 rfl rfl rfl rfl (hi1_ HT_.out Qb) Qc Qc (fun K hK => ?_) (fun K hK => ?_)
     ·skip
      refine Kd.wg_ k65 w.heap.size (by rfl) (.tmp 31) (.tmp 33) 27 65 (.agg #[(.int .i64 0), (.int .i64 0), (.slice none 0 0)]) 40 rfl Tryz.underlying27 cd1_ rfl Qc Qa (.slice Ao35 x211001_1.length co35) x211001_1 y225 _ _ _ (fun k_ => (w.heap.size ≤ k_) ∧ some k_ ≠ (.slice Ao36 x211002_1.length co36 : Value).ownBlock ∧ some k_ ≠ (.slice Ao29 t220.length co29 : Value).ownBlock ∧ k_ ≠ gb207 ∧ k_ ≠ gb210 ∧ k_ ≠ gb219 ∧ k_ ≠ gb224 ∧ k_ ≠ g) (fun k_ => ((fun k_ => (w.heap.size ≤ k_) ∧ some k_ ≠ (.slice Ao36 x211002_1.length co36 : Value).ownBlock ∧ some k_ ≠ (.slice Ao29 t220.length co29 : Value).ownBlock ∧ k_ ≠ gb207 ∧ k_ ≠ gb210 ∧ k_ ≠ gb219 ∧ k_ ≠ gb224 ∧ k_ ≠ g)) k_ ∧ some k_ ≠ (.slice Ao35 x211001_1.length co35 : Value).ownBlock) rfl rfl ?aO ?aR (fun _ hk => hk) ?aF (Below.refl _ _) ?aS ?aL ?_
      (case aR => exact (by skip; exact Kd.N_F (Kd.yc_ (ok' := (fun k_ => ((fun k_ => (w.heap.size ≤ k_) ∧ some k_ ≠ (.slice Ao36 x211002_1.length co36 : Value).ownBlock ∧ some k_ ≠ (.slice Ao29 t220.length co29 : Value).ownBlock ∧ k_ ≠ gb207 ∧ k_ ≠ gb210 ∧ k_ ≠ gb219 ∧ k_ ≠ gb224 ∧ k_ ≠ g)) k_ ∧ some k_ ≠ (.slice Ao35 x211001_1.length co35 : Value).ownBlock)) (HO227.out) (fun k_ hk => ⟨⟨hk.1, ⟨hk.2.2.1, ⟨hk.2.2.2.1, ⟨hk.2.2.2.2.1, ⟨hk.2.2.2.2.2.1, ⟨hk.2.2.2.2.2.2.1, ⟨hk.2.2.2.2.2.2.2.1, hk.2.2.2.2.2.2.2.2⟩⟩⟩⟩⟩⟩⟩, hk.2.1⟩))))
      (case aF => exact (fun k_ hk => ⟨(Nat.le_trans (kd_ (w := w) (g := g) (row := none) Q0) hk), Kd.fresh' (Kd.N_lt (Qp HO_211002.out)) k_ hk, Kd.fresh' (Kd.N_lt (Qp HO222.out)) k_ hk, Kd.ff_ (g := gb207) (o := .cells #[.int .i64 0, .slice none 0 0, .slice none 0 0, .slice none 0 0] 31 (0, 0)) (Qf BK207.out) k_ hk, Kd.ff_ (g := gb210) (o := .cells #[.int .i64 t208, .slice Ao35 x211001_1.length co35, .slice Ao36 x211002_1.length co36, .slice none 0 0] 31 (0, 0)) (Qf BK210.out) k_ hk, Kd.ff_ (g := gb219) (o := .cells #[.int .i64 t213, .int .i64 t214, .slice Ao26 t215.length co26] 65 (0, 0)) (Qf BK219.out) k_ hk, Kd.ff_ (g := gb224) (o := .cells #[.slice Ao29 t220.length co29] 60 (0, 0)) (Qf BK224.out) k_ hk, ga_.fresh Q4 k_ hk⟩))
      (case aO => exact (by (with_reducible repeat (first | apply Kd.cc_ | apply Kd.dc_ | apply Kd.oc_)); exact Kd.yc_ HO_211001.out (fun _ hk => ⟨hk.1.1, ⟨hk.1.2.1, ⟨hk.1.2.2.2.1, ⟨hk.1.2.2.2.2.1, ⟨hk.1.2.2.2.2.2.1, ⟨hk.1.2.2.2.2.2.2.2.1, ⟨hk.1.2.2.2.2.2.2.2.2, hk.1.2.2.2.2.2.2.1⟩⟩⟩⟩⟩⟩⟩)))
      (case aS => exact Y1)
      (case aL => have := LMc14.out; omega)
      intro v229 w41 ho hb hg hat
      rw [← Ny228.out] at ho
      have n0_ := ba_.mk (Kd.vg_ (ok := (fun k_ => (w.heap.size ≤ k_) ∧ some k_ ≠ (.slice Ao29 t220.length co29 : Value).ownBlock ∧ some k_ ≠ (.slice Ao42 y225.length co42 : Value).ownBlock ∧ k_ ≠ gb207 ∧ k_ ≠ gb210 ∧ k_ ≠ g ∧ k_ ≠ gb219 ∧ k_ ≠ gb224)) (by (with_reducible repeat (first | apply Kd.cc_ | apply Kd.dc_ | apply Kd.oc_)); exact Kd.yc_ HO_211002.out (fun _ hk => ⟨⟨hk.1.1, ⟨hk.1.2.2.2.1, ⟨hk.2, ⟨hk.1.2.2.2.2.1, ⟨hk.1.2.2.2.2.2.1, ⟨hk.1.2.2.2.2.2.2.1, ⟨hk.1.2.2.2.2.2.2.2.1, hk.1.2.2.2.2.2.2.2.2⟩⟩⟩⟩⟩⟩⟩, hk.1.2.1⟩)) hg hat)
      have n1_ := ba_.mk (ce_ (g := gb207) (o := .cells #[.int .i64 0, .slice none 0 0, .slice none 0 0, .slice none 0 0] 31 (0, 0)) (Qf BK207.out) hg (Kd.N_ne HO_211001.out BK207.out Qc))
      have n2_ := ba_.mk (ce_ (g := gb210) (o := .cells #[.int .i64 t208, .slice Ao35 x211001_1.length co35, .slice Ao36 x211002_1.length co36, .slice none 0 0] 31 (0, 0)) (Qf BK210.out) hg (Kd.N_ne HO_211001.out BK210.out Qc))
      have n3_ := ba_.mk (ga_.grown Q4 hg (ga_.dn_ HI0.out HO_211001.out Qc))
      have n4_ := ba_.mk (ce_ (g := gb219) (o := .cells #[.int .i64 t213, .int .i64 t214, .slice Ao26 t215.length co26] 65 (0, 0)) (Qf BK219.out) hg (Kd.yx_ HO_211001.out (fun _ hk => hk.1.2.2.2.2.2.2.2.1)))
      have n5_ := ba_.mk (Kd.vg_ (ok := (fun k_ => (w.heap.size ≤ k_) ∧ some k_ ≠ (.slice Ao36 x211002_1.length co36 : Value).ownBlock ∧ some k_ ≠ (.slice Ao42 y225.length co42 : Value).ownBlock ∧ k_ ≠ gb207 ∧ k_ ≠ gb210 ∧ k_ ≠ gb219 ∧ k_ ≠ g ∧ k_ ≠ gb224)) (by (with_reducible repeat (first | apply Kd.cc_ | apply Kd.dc_ | apply Kd.oc_)); exact Kd.yc_ HO222.out (fun _ hk => ⟨⟨hk.1.1, ⟨hk.1.2.2.1, ⟨hk.2, ⟨hk.1.2.2.2.2.1, ⟨hk.1.2.2.2.2.2.1, ⟨hk.1.2.2.2.2.2.2.1, ⟨hk.1.2.2.2.2.2.2.2.1, hk.1.2.2.2.2.2.2.2.2⟩⟩⟩⟩⟩⟩⟩, hk.1.2.1⟩)) hg hat)
      have n6_ := ba_.mk (ce_ (g := gb224) (o := .cells #[.slice Ao29 t220.length co29] 60 (0, 0)) (Qf BK224.out) hg (Kd.N_ne HO_211001.out BK224.out Qc))
      have n7_ := ba_.mk (Kd.vg_ (ok := (fun k_ => (w.heap.size ≤ k_) ∧ some k_ ≠ (.slice Ao36 x211002_1.length co36 : Value).ownBlock ∧ some k_ ≠ (.slice Ao29 t220.length co29 : Value).ownBlock ∧ k_ ≠ gb207 ∧ k_ ≠ gb210 ∧ k_ ≠ gb219 ∧ k_ ≠ gb224 ∧ k_ ≠ g)) (by (with_reducible repeat (first | apply Kd.cc_ | apply Kd.dc_ | apply Kd.oc_)); exact Kd.yc_ HO227.out (fun _ hk => ⟨⟨hk.1, ⟨hk.2.2.1, ⟨hk.2.2.2.1, ⟨hk.2.2.2.2.1, ⟨hk.2.2.2.2.2.1, ⟨hk.2.2.2.2.2.2.1, ⟨hk.2.2.2.2.2.2.2.1, hk.2.2.2.2.2.2.2.2⟩⟩⟩⟩⟩⟩⟩, hk.2.1⟩)) hg hat)
      have n8_ := ba_.mk (gg_ Xb HL.out hb)
      have n9_ := ba_.mk (ra_.trans Q0 (ra_.ki_ hg g) (Kd.ft_ HO_211001.out))
      have n10_ := ba_.mk (ho)
      clear HO_211002
      clear BK207
      clear BK210
      clear HI0
      clear BK219
      clear HO222
      clear BK224
      clear HO227
      clear HB
      clear HK
      clear HO_211001
      have HO_211002 := n0_
      have BK207 := n1_
      have BK210 := n2_
      have HI0 := n3_
      have BK219 := n4_
      have HO222 := n5_
      have BK224 := n6_
      have HO227 := n7_
      have HB := n8_
      have HK := n9_
      have HO230 := n10_
      clear n0_ n1_ n2_ n3_ n4_ n5_ n6_ n7_ n8_ n9_ n10_
      clear ho hb hg hat
      refine hK.out _ _ ⟨(la_ BK210.out 0).trans rfl, (la_ BK210.out 1).trans rfl, (la_ BK210.out 2).trans rfl, (la_ BK210.out 3).trans rfl, (la_ BK219.out 0).trans rfl, (la_ BK219.out 1).trans rfl, (la_ BK219.out 2).trans rfl, (la_ BK224.out 0).trans rfl⟩ (fun hHeld => ?_)
      clear hK K
      refine ug_ (a' := ?_) ?_ ?_
      rotate_left
      ·exact Qah
      refine qc_ (i := 10) (N := some 40) (v := ?_) (a' := ?_) #[true, true, true, true, true, true, true, true, false, false, true, false, false, false] rfl rfl Qn Qe (Or.inl ⟨by rfl, ?_⟩) ?_ ?_
      rotate_left
      ·exact Qg
      rotate_left
      ·exact Qd
      refine one_ (i := 8) (N := some 38) Y3 rfl rfl Qz Qc (fun K hK => ?_)
      refine Kd.tk_ k60 _ 60 ?hg_452 (N' := 38) ?hd_452 (xs := ([(⟨t220⟩ : S60)] : List (S60))) (inner := [.slice Ao29 t220.length co29]) (ok := (fun k_ => (w.heap.size ≤ k_) ∧ some k_ ≠ (.slice Ao36 x211002_1.length co36 : Value).ownBlock ∧ some k_ ≠ (.slice Ao42 y225.length co42 : Value).ownBlock ∧ some k_ ≠ (v229 : Value).ownBlock ∧ k_ ≠ gb207 ∧ k_ ≠ gb210 ∧ k_ ≠ gb219 ∧ k_ ≠ gb224 ∧ k_ ≠ g)) (okp := (fun k_ => (w.heap.size ≤ k_) ∧ some k_ ≠ (.slice Ao36 x211002_1.length co36 : Value).ownBlock ∧ some k_ ≠ (.slice Ao42 y225.length co42 : Value).ownBlock ∧ some k_ ≠ (v229 : Value).ownBlock ∧ k_ ≠ gb207 ∧ k_ ≠ gb210 ∧ k_ ≠ gb219 ∧ k_ ≠ gb224 ∧ k_ ≠ g)) ?hr_452 ?hp_452 (fun _ hk => hk) ((show ∀ k_, w41.heap.size ≤ k_ → (fun k_ => (w.heap.size ≤ k_) ∧ some k_ ≠ (.slice Ao36 x211002_1.length co36 : Value).ownBlock ∧ some k_ ≠ (.slice Ao42 y225.length co42 : Value).ownBlock ∧ some k_ ≠ (v229 : Value).ownBlock ∧ k_ ≠ gb207 ∧ k_ ≠ gb210 ∧ k_ ≠ gb219 ∧ k_ ≠ gb224 ∧ k_ ≠ g) k_ from fun k_ hk => ⟨(Nat.le_trans (kd_ (w := w) (g := g) (row := none) Q0) hk), Kd.fresh' (Kd.N_lt (Qp HO_211002.out)) k_ hk, Kd.fresh' (Kd.N_lt (Qp HO227.out)) k_ hk, Kd.fresh' (Kd.N_lt (Qp HO230.out)) k_ hk, Kd.ff_ (g := gb207) (o := .cells #[.int .i64 0, .slice none 0 0, .slice none 0 0, .slice none 0 0] 31 (0, 0)) (Qf BK207.out) k_ hk, Kd.ff_ (g := gb210) (o := .cells #[.int .i64 t208, .slice Ao35 x211001_1.length co35, .slice Ao36 x211002_1.length co36, .slice none 0 0] 31 (0, 0)) (Qf BK210.out) k_ hk, Kd.ff_ (g := gb219) (o := .cells #[.int .i64 t213, .int .i64 t214, .slice Ao26 t215.length co26] 65 (0, 0)) (Qf BK219.out) k_ hk, Kd.ff_ (g := gb224) (o := .cells #[.slice Ao29 t220.length co29] 60 (0, 0)) (Qf BK224.out) k_ hk, ga_.fresh Q4 k_ hk⟩) _ (Nat.le_refl _)) (Below.refl _ _) (Nat.le_refl _) Qj ?_; (case hd_452 => rfl); (case hg_452 => rfl); (case hr_452 => exact Qt); (case hp_452 => exact (Reps.one (show Kd.FK k60 _ _ (⟨t220⟩ : S60) [.slice Ao29 t220.length co29] from (cx_ _ _ (⟨t220⟩ : S60) (Kd.dg_ (Kd.yc_ (ok' := (fun k_ => (w.heap.size ≤ k_) ∧ some k_ ≠ (.slice Ao36 x211002_1.length co36 : Value).ownBlock ∧ some k_ ≠ (.slice Ao42 y225.length co42 : Value).ownBlock ∧ some k_ ≠ (v229 : Value).ownBlock ∧ k_ ≠ gb207 ∧ k_ ≠ gb210 ∧ k_ ≠ gb219 ∧ k_ ≠ gb224 ∧ k_ ≠ g)) (HO222.out) (fun k_ hk => ⟨hk.1.1, ⟨hk.1.2.1, ⟨hk.1.2.2.1, ⟨hk.2, ⟨hk.1.2.2.2.1, ⟨hk.1.2.2.2.2.1, ⟨hk.1.2.2.2.2.2.1, ⟨hk.1.2.2.2.2.2.2.2, hk.1.2.2.2.2.2.2.1⟩⟩⟩⟩⟩⟩⟩⟩))).2.1 (Kd.N_F (Kd.yc_ (ok' := (fun k_ => (w.heap.size ≤ k_) ∧ some k_ ≠ (.slice Ao36 x211002_1.length co36 : Value).ownBlock ∧ some k_ ≠ (.slice Ao42 y225.length co42 : Value).ownBlock ∧ some k_ ≠ (v229 : Value).ownBlock ∧ k_ ≠ gb207 ∧ k_ ≠ gb210 ∧ k_ ≠ gb219 ∧ k_ ≠ gb224 ∧ k_ ≠ g)) (HO222.out) (fun k_ hk => ⟨hk.1.1, ⟨hk.1.2.1, ⟨hk.1.2.2.1, ⟨hk.2, ⟨hk.1.2.2.2.1, ⟨hk.1.2.2.2.2.1, ⟨hk.1.2.2.2.2.2.1, ⟨hk.1.2.2.2.2.2.2.2, hk.1.2.2.2.2.2.2.1⟩⟩⟩⟩⟩⟩⟩⟩))))) (Reps.none _ _)))
      intro v232 w43 ho44 hb hg_ hnew_
      clear hg_ hnew_
      (first | rw [← Ny231.out] at ho44 | (simp only [Int.reduceToNat] at ho44; rw [← Ny231.out] at ho44))
      have n0_ := ba_.mk (Kd.te_ (Qp HO_211002.out) (Kd.pi_ ho44) hb)
      have n1_ := ba_.mk (Kd.te_ (Qp HO227.out) (Kd.pi_ ho44) hb)
      have n2_ := ba_.mk (Kd.te_ (Qp HO230.out) (Kd.pi_ ho44) hb)
      have n3_ := ba_.mk (Kd.gj_ ho44 (kd_ (w := w) (g := g) (row := none) Q0))
      have n4_ := ba_.mk (pc_ (g := gb207) (o := .cells #[.int .i64 0, .slice none 0 0, .slice none 0 0, .slice none 0 0] 31 (0, 0)) (Qf BK207.out) hb)
      have n5_ := ba_.mk (pc_ (g := gb210) (o := .cells #[.int .i64 t208, .slice Ao35 x211001_1.length co35, .slice Ao36 x211002_1.length co36, .slice none 0 0] 31 (0, 0)) (Qf BK210.out) hb)
      have n6_ := ba_.mk (ga_.below Q4 hb)
      have n7_ := ba_.mk (pc_ (g := gb219) (o := .cells #[.int .i64 t213, .int .i64 t214, .slice Ao26 t215.length co26] 65 (0, 0)) (Qf BK219.out) hb)
      have n8_ := ba_.mk (pc_ (g := gb224) (o := .cells #[.slice Ao29 t220.length co29] 60 (0, 0)) (Qf BK224.out) hb)
      have n9_ := ba_.mk (ra_.trans Q0 (ra_.sf_ hb g none) (.inl rfl))
      have n10_ := ba_.mk (hb_ Xb hb)
      clear HO_211002
      clear HO227
      clear HO230
      clear BK207
      clear BK210
      clear HI0
      clear BK219
      clear BK224
      clear HK
      clear HB
      clear HO222
      have HO_211002 := n0_
      have HO227 := n1_
      have HO230 := n2_
      have HO233 := n3_
      have BK207 := n4_
      have BK210 := n5_
      have HI0 := n6_
      have BK219 := n7_
      have BK224 := n8_
      have HK := n9_
      have HB := n10_
      clear n0_ n1_ n2_ n3_ n4_ n5_ n6_ n7_ n8_ n9_ n10_
      clear hb ho44
      refine hK.out _ _ ⟨(la_ BK210.out 0).trans rfl, (la_ BK210.out 1).trans rfl, (la_ BK210.out 2).trans rfl, (la_ BK210.out 3).trans rfl, (la_ BK219.out 0).trans rfl, (la_ BK219.out 1).trans rfl, (la_ BK219.out 2).trans rfl, (la_ BK224.out 0).trans rfl⟩ (fun hHeld => ?_)
      clear hK K
      refine ug_ (a' := ?_) ?_ ?_
      rotate_left
      ·exact Qai
      exact ug_ (by simp only [putAll, Act.put, List.setIfInBounds_toArray, List.set_cons_zero, List.set_cons_succ]) (hCont (.slice Ao42 y225.length co42, v229, v232) _ ⟨hHeld, (by (with_reducible repeat (first | apply Kd.cc_ | apply Kd.dc_ | apply Kd.oc_)); exact Kd.yc_ HO227.out (fun _ hk => ⟨hk.1.1.1, ⟨hk.1.2, ⟨hk.2, ⟨hk.1.1.2.1, ⟨hk.1.1.2.2.2.2.2.2.2, ⟨hk.1.1.2.2.2.1, ⟨hk.1.1.2.2.2.2.1, ⟨hk.1.1.2.2.2.2.2.1, hk.1.1.2.2.2.2.2.2.1⟩⟩⟩⟩⟩⟩⟩⟩)), (by (with_reducible repeat (first | apply Kd.cc_ | apply Kd.dc_ | apply Kd.oc_)); exact Kd.yc_ HO230.out (fun _ hk => ⟨hk.1.1, ⟨hk.2, ⟨hk.1.2.1, ⟨hk.1.2.2.2.2.2.2.2, ⟨hk.1.2.2.2.1, ⟨hk.1.2.2.2.2.1, ⟨hk.1.2.2.2.2.2.1, hk.1.2.2.2.2.2.2.1⟩⟩⟩⟩⟩⟩⟩)), (by (with_reducible repeat (first | apply Kd.cc_ | apply Kd.dc_ | apply Kd.oc_)); exact Kd.yc_ HO233.out (fun _ hk => ⟨hk.1, ⟨hk.2.2.1, ⟨hk.2.2.2.1, ⟨hk.2.1, ⟨hk.2.2.2.2.2.2.2.2, ⟨hk.2.2.2.2.1, ⟨hk.2.2.2.2.2.1, ⟨hk.2.2.2.2.2.2.1, hk.2.2.2.2.2.2.2.1⟩⟩⟩⟩⟩⟩⟩⟩)), (by (with_reducible repeat (first | apply Kd.cc_ | apply Kd.dc_ | apply Kd.oc_)); exact Kd.yc_ HO_211002.out (fun _ hk => ⟨hk.1.1.1, ⟨hk.1.1.2.2.1, ⟨hk.1.2, ⟨hk.2, ⟨hk.1.1.2.2.2.2.2.1, ⟨hk.1.1.2.2.2.1, ⟨hk.1.1.2.2.2.2.1, ⟨hk.1.1.2.2.2.2.2.2.1, hk.1.1.2.2.2.2.2.2.2⟩⟩⟩⟩⟩⟩⟩⟩)), (Qf BK207.out), (Qf BK210.out), (Qf BK219.out), (Qf BK224.out), Q4, Q0, Xb⟩)
     skip
     refine Kd.tk_ k60 _ 60 ?hg_500 (N' := 38) ?hd_500 (xs := ([(⟨t220⟩ : S60)] : List (S60))) (inner := [.slice Ao29 t220.length co29]) (ok := (fun k_ => (w.heap.size ≤ k_) ∧ some k_ ≠ (.slice Ao35 x211001_1.length co35 : Value).ownBlock ∧ some k_ ≠ (.slice Ao36 x211002_1.length co36 : Value).ownBlock ∧ some k_ ≠ (.slice Ao42 y225.length co42 : Value).ownBlock ∧ k_ ≠ gb207 ∧ k_ ≠ gb210 ∧ k_ ≠ gb219 ∧ k_ ≠ gb224 ∧ k_ ≠ g)) (okp := (fun k_ => (w.heap.size ≤ k_) ∧ some k_ ≠ (.slice Ao35 x211001_1.length co35 : Value).ownBlock ∧ some k_ ≠ (.slice Ao36 x211002_1.length co36 : Value).ownBlock ∧ some k_ ≠ (.slice Ao42 y225.length co42 : Value).ownBlock ∧ k_ ≠ gb207 ∧ k_ ≠ gb210 ∧ k_ ≠ gb219 ∧ k_ ≠ gb224 ∧ k_ ≠ g)) ?hr_500 ?hp_500 (fun _ hk => hk) ((show ∀ k_, w39.heap.size ≤ k_ → (fun k_ => (w.heap.size ≤ k_) ∧ some k_ ≠ (.slice Ao35 x211001_1.length co35 : Value).ownBlock ∧ some k_ ≠ (.slice Ao36 x211002_1.length co36 : Value).ownBlock ∧ some k_ ≠ (.slice Ao42 y225.length co42 : Value).ownBlock ∧ k_ ≠ gb207 ∧ k_ ≠ gb210 ∧ k_ ≠ gb219 ∧ k_ ≠ gb224 ∧ k_ ≠ g) k_ from fun k_ hk => ⟨(Nat.le_trans (kd_ (w := w) (g := g) (row := none) Q0) hk), Kd.fresh' (Kd.N_lt (Qp HO_211001.out)) k_ hk, Kd.fresh' (Kd.N_lt (Qp HO_211002.out)) k_ hk, Kd.fresh' (Kd.N_lt (Qp HO227.out)) k_ hk, Kd.ff_ (g := gb207) (o := .cells #[.int .i64 0, .slice none 0 0, .slice none 0 0, .slice none 0 0] 31 (0, 0)) (Qf BK207.out) k_ hk, Kd.ff_ (g := gb210) (o := .cells #[.int .i64 t208, .slice Ao35 x211001_1.length co35, .slice Ao36 x211002_1.length co36, .slice none 0 0] 31 (0, 0)) (Qf BK210.out) k_ hk, Kd.ff_ (g := gb219) (o := .cells #[.int .i64 t213, .int .i64 t214, .slice Ao26 t215.length co26] 65 (0, 0)) (Qf BK219.out) k_ hk, Kd.ff_ (g := gb224) (o := .cells #[.slice Ao29 t220.length co29] 60 (0, 0)) (Qf BK224.out) k_ hk, ga_.fresh Q4 k_ hk⟩) _ (Nat.le_refl _)) (Below.refl _ _) (Nat.le_refl _) Qj ?_; (case hd_500 => rfl); (case hg_500 => rfl); (case hr_500 => exact Qt); (case hp_500 => exact (Reps.one (show Kd.FK k60 _ _ (⟨t220⟩ : S60) [.slice Ao29 t220.length co29] from (cx_ _ _ (⟨t220⟩ : S60) (Kd.dg_ (Kd.yc_ (ok' := (fun k_ => (w.heap.size ≤ k_) ∧ some k_ ≠ (.slice Ao35 x211001_1.length co35 : Value).ownBlock ∧ some k_ ≠ (.slice Ao36 x211002_1.length co36 : Value).ownBlock ∧ some k_ ≠ (.slice Ao42 y225.length co42 : Value).ownBlock ∧ k_ ≠ gb207 ∧ k_ ≠ gb210 ∧ k_ ≠ gb219 ∧ k_ ≠ gb224 ∧ k_ ≠ g)) (HO222.out) (fun k_ hk => ⟨hk.1.1, ⟨hk.1.2.1, ⟨hk.1.2.2.1, ⟨hk.2, ⟨hk.1.2.2.2.2.1, ⟨hk.1.2.2.2.2.2.1, ⟨hk.1.2.2.2.2.2.2.1, ⟨hk.1.2.2.2.2.2.2.2.2, hk.1.2.2.2.2.2.2.2.1⟩⟩⟩⟩⟩⟩⟩⟩))).2.1 (Kd.N_F (Kd.yc_ (ok' := (fun k_ => (w.heap.size ≤ k_) ∧ some k_ ≠ (.slice Ao35 x211001_1.length co35 : Value).ownBlock ∧ some k_ ≠ (.slice Ao36 x211002_1.length co36 : Value).ownBlock ∧ some k_ ≠ (.slice Ao42 y225.length co42 : Value).ownBlock ∧ k_ ≠ gb207 ∧ k_ ≠ gb210 ∧ k_ ≠ gb219 ∧ k_ ≠ gb224 ∧ k_ ≠ g)) (HO222.out) (fun k_ hk => ⟨hk.1.1, ⟨hk.1.2.1, ⟨hk.1.2.2.1, ⟨hk.2, ⟨hk.1.2.2.2.2.1, ⟨hk.1.2.2.2.2.2.1, ⟨hk.1.2.2.2.2.2.2.1, ⟨hk.1.2.2.2.2.2.2.2.2, hk.1.2.2.2.2.2.2.2.1⟩⟩⟩⟩⟩⟩⟩⟩))))) (Reps.none _ _)))
     intro v232 w41 ho42 hb hg_ hnew_
     clear hg_ hnew_
     (first | rw [← Ny231.out] at ho42 | (simp only [Int.reduceToNat] at ho42; rw [← Ny231.out] at ho42))
     have n0_ := ba_.mk (Kd.te_ (Qp HO_211001.out) (Kd.pi_ ho42) hb)
     have n1_ := ba_.mk (Kd.te_ (Qp HO_211002.out) (Kd.pi_ ho42) hb)
     have n2_ := ba_.mk (Kd.te_ (Qp HO227.out) (Kd.pi_ ho42) hb)
     have n3_ := ba_.mk (Kd.gj_ ho42 (kd_ (w := w) (g := g) (row := none) Q0))
     have n4_ := ba_.mk (pc_ (g := gb207) (o := .cells #[.int .i64 0, .slice none 0 0, .slice none 0 0, .slice none 0 0] 31 (0, 0)) (Qf BK207.out) hb)
     have n5_ := ba_.mk (pc_ (g := gb210) (o := .cells #[.int .i64 t208, .slice Ao35 x211001_1.length co35, .slice Ao36 x211002_1.length co36, .slice none 0 0] 31 (0, 0)) (Qf BK210.out) hb)
     have n6_ := ba_.mk (ga_.below Q4 hb)
     have n7_ := ba_.mk (pc_ (g := gb219) (o := .cells #[.int .i64 t213, .int .i64 t214, .slice Ao26 t215.length co26] 65 (0, 0)) (Qf BK219.out) hb)
     have n8_ := ba_.mk (pc_ (g := gb224) (o := .cells #[.slice Ao29 t220.length co29] 60 (0, 0)) (Qf BK224.out) hb)
     have n9_ := ba_.mk (ra_.trans Q0 (ra_.sf_ hb g none) (.inl rfl))
     have n10_ := ba_.mk (hb_ Xb hb)
     clear HO_211001
     clear HO_211002
     clear HO227
     clear BK207
     clear BK210
     clear HI0
     clear BK219
     clear BK224
     clear HK
     clear HB
     clear HO222
     have HO_211001 := n0_
     have HO_211002 := n1_
     have HO227 := n2_
     have HO233 := n3_
     have BK207 := n4_
     have BK210 := n5_
     have HI0 := n6_
     have BK219 := n7_
     have BK224 := n8_
     have HK := n9_
     have HB := n10_
     clear n0_ n1_ n2_ n3_ n4_ n5_ n6_ n7_ n8_ n9_ n10_
     clear hb ho42
     obtain ⟨Ao44, co44, eo44⟩ := Kd.og_ HO227.out
     (first | subst eo44 | (injection eo44 with f1_ f2_ f3_; have f4_ := f1_.symm; have f5_ := f3_.symm; clear f1_ f2_ f3_; subst f4_; subst f5_))
     refine hK.out _ _ ⟨(la_ BK210.out 0).trans rfl, (la_ BK210.out 1).trans rfl, (la_ BK210.out 2).trans rfl, (la_ BK210.out 3).trans rfl, (la_ BK219.out 0).trans rfl, (la_ BK219.out 1).trans rfl, (la_ BK219.out 2).trans rfl, (la_ BK224.out 0).trans rfl⟩ (fun hHeld => ?_)
     clear hK K
     refine ug_ (a' := ?_) ?_ ?_
     rotate_left
     ·exact Qai
     refine one_ (i := 4) (N := some 34) Qa3 rfl rfl Qz Qc (fun K hK => ?_)
     refine Kd.wg_ k65 w.heap.size (by rfl) (.tmp 31) (.tmp 33) 27 65 (.agg #[(.int .i64 0), (.int .i64 0), (.slice none 0 0)]) 40 rfl Tryz.underlying27 cd1_ rfl Qc Qa (.slice Ao35 x211001_1.length co35) x211001_1 y225 _ _ _ (fun k_ => (w.heap.size ≤ k_) ∧ some k_ ≠ (.slice Ao36 x211002_1.length co36 : Value).ownBlock ∧ some k_ ≠ (v232 : Value).ownBlock ∧ k_ ≠ gb207 ∧ k_ ≠ gb210 ∧ k_ ≠ gb219 ∧ k_ ≠ gb224 ∧ k_ ≠ g) (fun k_ => ((fun k_ => (w.heap.size ≤ k_) ∧ some k_ ≠ (.slice Ao36 x211002_1.length co36 : Value).ownBlock ∧ some k_ ≠ (v232 : Value).ownBlock ∧ k_ ≠ gb207 ∧ k_ ≠ gb210 ∧ k_ ≠ gb219 ∧ k_ ≠ gb224 ∧ k_ ≠ g)) k_ ∧ some k_ ≠ (.slice Ao35 x211001_1.length co35 : Value).ownBlock) rfl rfl ?aO ?aR (fun _ hk => hk) ?aF (Below.refl _ _) ?aS ?aL ?_
     (case aR => exact (by skip; exact Kd.N_F (Kd.yc_ (ok' := (fun k_ => ((fun k_ => (w.heap.size ≤ k_) ∧ some k_ ≠ (.slice Ao36 x211002_1.length co36 : Value).ownBlock ∧ some k_ ≠ (v232 : Value).ownBlock ∧ k_ ≠ gb207 ∧ k_ ≠ gb210 ∧ k_ ≠ gb219 ∧ k_ ≠ gb224 ∧ k_ ≠ g)) k_ ∧ some k_ ≠ (.slice Ao35 x211001_1.length co35 : Value).ownBlock)) (HO227.out) (fun k_ hk => ⟨⟨hk.1.1, ⟨hk.1.2.2.1, ⟨hk.2, ⟨hk.1.2.2.2.2.1, ⟨hk.1.2.2.2.2.2.1, ⟨hk.1.2.2.2.2.2.2.1, ⟨hk.1.2.2.2.2.2.2.2.1, hk.1.2.2.2.2.2.2.2.2⟩⟩⟩⟩⟩⟩⟩, hk.1.2.1⟩))))
     (case aF => exact (fun k_ hk => ⟨(Nat.le_trans (kd_ (w := w) (g := g) (row := none) Q0) hk), Kd.fresh' (Kd.N_lt (Qp HO_211002.out)) k_ hk, Kd.fresh' (Kd.N_lt (Qp HO233.out)) k_ hk, Kd.ff_ (g := gb207) (o := .cells #[.int .i64 0, .slice none 0 0, .slice none 0 0, .slice none 0 0] 31 (0, 0)) (Qf BK207.out) k_ hk, Kd.ff_ (g := gb210) (o := .cells #[.int .i64 t208, .slice Ao35 x211001_1.length co35, .slice Ao36 x211002_1.length co36, .slice none 0 0] 31 (0, 0)) (Qf BK210.out) k_ hk, Kd.ff_ (g := gb219) (o := .cells #[.int .i64 t213, .int .i64 t214, .slice Ao26 t215.length co26] 65 (0, 0)) (Qf BK219.out) k_ hk, Kd.ff_ (g := gb224) (o := .cells #[.slice Ao29 t220.length co29] 60 (0, 0)) (Qf BK224.out) k_ hk, ga_.fresh Q4 k_ hk⟩))
     (case aO => exact (by (with_reducible repeat (first | apply Kd.cc_ | apply Kd.dc_ | apply Kd.oc_)); exact Kd.yc_ HO_211001.out (fun _ hk => ⟨hk.1.1.1, ⟨hk.1.1.2.1, ⟨hk.2, ⟨hk.1.1.2.2.2.2.1, ⟨hk.1.1.2.2.2.2.2.1, ⟨hk.1.1.2.2.2.2.2.2.2.1, ⟨hk.1.1.2.2.2.2.2.2.2.2, hk.1.1.2.2.2.2.2.2.1⟩⟩⟩⟩⟩⟩⟩)))
     (case aS => exact Y1)
     (case aL => have := LMc14.out; omega)
     intro v229 w43 ho hb hg hat
     rw [← Ny228.out] at ho
     have n0_ := ba_.mk (Kd.vg_ (ok := (fun k_ => (w.heap.size ≤ k_) ∧ some k_ ≠ (.slice Ao44 y225.length co44 : Value).ownBlock ∧ some k_ ≠ (v232 : Value).ownBlock ∧ k_ ≠ gb207 ∧ k_ ≠ gb210 ∧ k_ ≠ g ∧ k_ ≠ gb219 ∧ k_ ≠ gb224)) (by (with_reducible repeat (first | apply Kd.cc_ | apply Kd.dc_ | apply Kd.oc_)); exact Kd.yc_ HO_211002.out (fun _ hk => ⟨⟨hk.1.1.1, ⟨hk.1.2, ⟨hk.2, ⟨hk.1.1.2.2.2.2.1, ⟨hk.1.1.2.2.2.2.2.1, ⟨hk.1.1.2.2.2.2.2.2.1, ⟨hk.1.1.2.2.2.2.2.2.2.1, hk.1.1.2.2.2.2.2.2.2.2⟩⟩⟩⟩⟩⟩⟩, hk.1.1.2.1⟩)) hg hat)
     have n1_ := ba_.mk (ce_ (g := gb207) (o := .cells #[.int .i64 0, .slice none 0 0, .slice none 0 0, .slice none 0 0] 31 (0, 0)) (Qf BK207.out) hg (Kd.N_ne HO_211001.out BK207.out Qc))
     have n2_ := ba_.mk (ce_ (g := gb210) (o := .cells #[.int .i64 t208, .slice Ao35 x211001_1.length co35, .slice Ao36 x211002_1.length co36, .slice none 0 0] 31 (0, 0)) (Qf BK210.out) hg (Kd.N_ne HO_211001.out BK210.out Qc))
     have n3_ := ba_.mk (ga_.grown Q4 hg (ga_.dn_ HI0.out HO_211001.out Qc))
     have n4_ := ba_.mk (ce_ (g := gb219) (o := .cells #[.int .i64 t213, .int .i64 t214, .slice Ao26 t215.length co26] 65 (0, 0)) (Qf BK219.out) hg (Kd.yx_ HO_211001.out (fun _ hk => hk.1.1.2.2.2.2.2.2.2.1)))
     have n5_ := ba_.mk (ce_ (g := gb224) (o := .cells #[.slice Ao29 t220.length co29] 60 (0, 0)) (Qf BK224.out) hg (Kd.N_ne HO_211001.out BK224.out Qc))
     have n6_ := ba_.mk (Kd.vg_ (ok := (fun k_ => (w.heap.size ≤ k_) ∧ some k_ ≠ (.slice Ao36 x211002_1.length co36 : Value).ownBlock ∧ some k_ ≠ (v232 : Value).ownBlock ∧ k_ ≠ gb207 ∧ k_ ≠ gb210 ∧ k_ ≠ gb219 ∧ k_ ≠ gb224 ∧ k_ ≠ g)) (by (with_reducible repeat (first | apply Kd.cc_ | apply Kd.dc_ | apply Kd.oc_)); exact Kd.yc_ HO227.out (fun _ hk => ⟨⟨hk.1.1, ⟨hk.1.2.2.1, ⟨hk.2, ⟨hk.1.2.2.2.2.1, ⟨hk.1.2.2.2.2.2.1, ⟨hk.1.2.2.2.2.2.2.1, ⟨hk.1.2.2.2.2.2.2.2.1, hk.1.2.2.2.2.2.2.2.2⟩⟩⟩⟩⟩⟩⟩, hk.1.2.1⟩)) hg hat)
     have n7_ := ba_.mk (Kd.vg_ (ok := (fun k_ => (w.heap.size ≤ k_) ∧ some k_ ≠ (.slice Ao36 x211002_1.length co36 : Value).ownBlock ∧ some k_ ≠ (.slice Ao44 y225.length co44 : Value).ownBlock ∧ k_ ≠ gb207 ∧ k_ ≠ gb210 ∧ k_ ≠ gb219 ∧ k_ ≠ gb224 ∧ k_ ≠ g)) (by (with_reducible repeat (first | apply Kd.cc_ | apply Kd.dc_ | apply Kd.oc_)); exact Kd.yc_ HO233.out (fun _ hk => ⟨⟨hk.1, ⟨hk.2.2.1, ⟨hk.2.2.2.1, ⟨hk.2.2.2.2.1, ⟨hk.2.2.2.2.2.1, ⟨hk.2.2.2.2.2.2.1, ⟨hk.2.2.2.2.2.2.2.1, hk.2.2.2.2.2.2.2.2⟩⟩⟩⟩⟩⟩⟩, hk.2.1⟩)) hg hat)
     have n8_ := ba_.mk (gg_ Xb HL.out hb)
     have n9_ := ba_.mk (ra_.trans Q0 (ra_.ki_ hg g) (Kd.ft_ HO_211001.out))
     have n10_ := ba_.mk (ho)
     clear HO_211002
     clear BK207
     clear BK210
     clear HI0
     clear BK219
     clear BK224
     clear HO227
     clear HO233
     clear HB
     clear HK
     clear HO_211001
     have HO_211002 := n0_
     have BK207 := n1_
     have BK210 := n2_
     have HI0 := n3_
     have BK219 := n4_
     have BK224 := n5_
     have HO227 := n6_
     have HO233 := n7_
     have HB := n8_
     have HK := n9_
     have HO230 := n10_
     clear n0_ n1_ n2_ n3_ n4_ n5_ n6_ n7_ n8_ n9_ n10_
     clear ho hb hg hat
     refine hK.out _ _ ⟨(la_ BK210.out 0).trans rfl, (la_ BK210.out 1).trans rfl, (la_ BK210.out 2).trans rfl, (la_ BK210.out 3).trans rfl, (la_ BK219.out 0).trans rfl, (la_ BK219.out 1).trans rfl, (la_ BK219.out 2).trans rfl, (la_ BK224.out 0).trans rfl⟩ (fun hHeld => ?_)
     clear hK K
     refine ug_ (a' := ?_) ?_ ?_
     rotate_left
     ·exact Qah
     refine qc_ (i := 10) (N := some 40) (v := ?_) (a' := ?_) Y3 rfl rfl Qn Qe (Or.inl ⟨by rfl, ?_⟩) ?_ ?_
     rotate_left
     ·exact Qg
     rotate_left
     ·exact Qd
     exact ug_ (by simp only [putAll, Act.put, List.setIfInBounds_toArray, List.set_cons_zero, List.set_cons_succ]) (hCont (.slice Ao44 y225.length co44, v229, v232) _ ⟨hHeld, (by (with_reducible repeat (first | apply Kd.cc_ | apply Kd.dc_ | apply Kd.oc_)); exact Kd.yc_ HO227.out (fun _ hk => ⟨hk.1.1, ⟨hk.2, ⟨hk.1.2.2.1, ⟨hk.1.2.1, ⟨hk.1.2.2.2.2.2.2.2, ⟨hk.1.2.2.2.1, ⟨hk.1.2.2.2.2.1, ⟨hk.1.2.2.2.2.2.1, hk.1.2.2.2.2.2.2.1⟩⟩⟩⟩⟩⟩⟩⟩)), (by (with_reducible repeat (first | apply Kd.cc_ | apply Kd.dc_ | apply Kd.oc_)); exact Kd.yc_ HO230.out (fun _ hk => ⟨hk.1, ⟨hk.2.2.1, ⟨hk.2.1, ⟨hk.2.2.2.2.2.2.2, ⟨hk.2.2.2.1, ⟨hk.2.2.2.2.1, ⟨hk.2.2.2.2.2.1, hk.2.2.2.2.2.2.1⟩⟩⟩⟩⟩⟩⟩)), (by (with_reducible repeat (first | apply Kd.cc_ | apply Kd.dc_ | apply Kd.oc_)); exact Kd.yc_ HO233.out (fun _ hk => ⟨hk.1.1, ⟨hk.1.2.2.1, ⟨hk.2, ⟨hk.1.2.1, ⟨hk.1.2.2.2.2.2.2.2, ⟨hk.1.2.2.2.1, ⟨hk.1.2.2.2.2.1, ⟨hk.1.2.2.2.2.2.1, hk.1.2.2.2.2.2.2.1⟩⟩⟩⟩⟩⟩⟩⟩)), (by (with_reducible repeat (first | apply Kd.cc_ | apply Kd.dc_ | apply Kd.oc_)); exact Kd.yc_ HO_211002.out (fun _ hk => ⟨hk.1.1, ⟨hk.1.2.1, ⟨hk.2, ⟨hk.1.2.2.1, ⟨hk.1.2.2.2.2.2.1, ⟨hk.1.2.2.2.1, ⟨hk.1.2.2.2.2.1, ⟨hk.1.2.2.2.2.2.2.1, hk.1.2.2.2.2.2.2.2⟩⟩⟩⟩⟩⟩⟩⟩)), (Qf BK207.out), (Qf BK210.out), (Qf BK219.out), (Qf BK224.out), Q4, Q0, Xb⟩)
    skip
    refine Kd.tk_ k60 _ 60 ?hg_609 (N' := 38) ?hd_609 (xs := ([(⟨t220⟩ : S60)] : List (S60))) (inner := [.slice Ao29 t220.length co29]) (ok := (fun k_ => (w.heap.size ≤ k_) ∧ some k_ ≠ (.slice Ao35 x211001_1.length co35 : Value).ownBlock ∧ some k_ ≠ (.slice Ao36 x211002_1.length co36 : Value).ownBlock ∧ some k_ ≠ (.slice Ao26 t215.length co26 : Value).ownBlock ∧ k_ ≠ gb207 ∧ k_ ≠ gb210 ∧ k_ ≠ gb219 ∧ k_ ≠ gb224 ∧ k_ ≠ g)) (okp := (fun k_ => (w.heap.size ≤ k_) ∧ some k_ ≠ (.slice Ao35 x211001_1.length co35 : Value).ownBlock ∧ some k_ ≠ (.slice Ao36 x211002_1.length co36 : Value).ownBlock ∧ some k_ ≠ (.slice Ao26 t215.length co26 : Value).ownBlock ∧ k_ ≠ gb207 ∧ k_ ≠ gb210 ∧ k_ ≠ gb219 ∧ k_ ≠ gb224 ∧ k_ ≠ g)) ?hr_609 ?hp_609 (fun _ hk => hk) ((show ∀ k_, w38.heap.size ≤ k_ → (fun k_ => (w.heap.size ≤ k_) ∧ some k_ ≠ (.slice Ao35 x211001_1.length co35 : Value).ownBlock ∧ some k_ ≠ (.slice Ao36 x211002_1.length co36 : Value).ownBlock ∧ some k_ ≠ (.slice Ao26 t215.length co26 : Value).ownBlock ∧ k_ ≠ gb207 ∧ k_ ≠ gb210 ∧ k_ ≠ gb219 ∧ k_ ≠ gb224 ∧ k_ ≠ g) k_ from fun k_ hk => ⟨(Nat.le_trans (kd_ (w := w) (g := g) (row := none) Q0) hk), Kd.fresh' (Kd.N_lt (Qp HO_211001.out)) k_ hk, Kd.fresh' (Kd.N_lt (Qp HO_211002.out)) k_ hk, Kd.fresh' (Kd.R_lt (Qk HO217.out)) k_ hk, Kd.ff_ (g := gb207) (o := .cells #[.int .i64 0, .slice none 0 0, .slice none 0 0, .slice none 0 0] 31 (0, 0)) (Qf BK207.out) k_ hk, Kd.ff_ (g := gb210) (o := .cells #[.int .i64 t208, .slice Ao35 x211001_1.length co35, .slice Ao36 x211002_1.length co36, .slice none 0 0] 31 (0, 0)) (Qf BK210.out) k_ hk, Kd.ff_ (g := gb219) (o := .cells #[.int .i64 t213, .int .i64 t214, .slice Ao26 t215.length co26] 65 (0, 0)) (Qf BK219.out) k_ hk, Kd.ff_ (g := gb224) (o := .cells #[.slice Ao29 t220.length co29] 60 (0, 0)) (Qf BK224.out) k_ hk, ga_.fresh Q4 k_ hk⟩) _ (Nat.le_refl _)) (Below.refl _ _) (Nat.le_refl _) Qj ?_; (case hd_609 => rfl); (case hg_609 => rfl); (case hr_609 => exact Qt); (case hp_609 => exact (Reps.one (show Kd.FK k60 _ _ (⟨t220⟩ : S60) [.slice Ao29 t220.length co29] from (cx_ _ _ (⟨t220⟩ : S60) (Kd.dg_ (Kd.yc_ (ok' := (fun k_ => (w.heap.size ≤ k_) ∧ some k_ ≠ (.slice Ao35 x211001_1.length co35 : Value).ownBlock ∧ some k_ ≠ (.slice Ao36 x211002_1.length co36 : Value).ownBlock ∧ some k_ ≠ (.slice Ao26 t215.length co26 : Value).ownBlock ∧ k_ ≠ gb207 ∧ k_ ≠ gb210 ∧ k_ ≠ gb219 ∧ k_ ≠ gb224 ∧ k_ ≠ g)) (HO222.out) (fun k_ hk => ⟨hk.1, ⟨hk.2.1, ⟨hk.2.2.1, ⟨hk.2.2.2.1, ⟨hk.2.2.2.2.1, ⟨hk.2.2.2.2.2.1, ⟨hk.2.2.2.2.2.2.1, ⟨hk.2.2.2.2.2.2.2.2, hk.2.2.2.2.2.2.2.1⟩⟩⟩⟩⟩⟩⟩⟩))).2.1 (Kd.N_F (Kd.yc_ (ok' := (fun k_ => (w.heap.size ≤ k_) ∧ some k_ ≠ (.slice Ao35 x211001_1.length co35 : Value).ownBlock ∧ some k_ ≠ (.slice Ao36 x211002_1.length co36 : Value).ownBlock ∧ some k_ ≠ (.slice Ao26 t215.length co26 : Value).ownBlock ∧ k_ ≠ gb207 ∧ k_ ≠ gb210 ∧ k_ ≠ gb219 ∧ k_ ≠ gb224 ∧ k_ ≠ g)) (HO222.out) (fun k_ hk => ⟨hk.1, ⟨hk.2.1, ⟨hk.2.2.1, ⟨hk.2.2.2.1, ⟨hk.2.2.2.2.1, ⟨hk.2.2.2.2.2.1, ⟨hk.2.2.2.2.2.2.1, ⟨hk.2.2.2.2.2.2.2.2, hk.2.2.2.2.2.2.2.1⟩⟩⟩⟩⟩⟩⟩⟩))))) (Reps.none _ _)))
    intro v232 w39 ho40 hb hg_ hnew_
    clear hg_ hnew_
    (first | rw [← Ny231.out] at ho40 | (simp only [Int.reduceToNat] at ho40; rw [← Ny231.out] at ho40))
    have n0_ := ba_.mk (Kd.te_ (Qp HO_211001.out) (Kd.pi_ ho40) hb)
    have n1_ := ba_.mk (Kd.te_ (Qp HO_211002.out) (Kd.pi_ ho40) hb)
    have n2_ := ba_.mk (Kd.be_ (Qk HO217.out) hb)
    have n3_ := ba_.mk (Kd.gj_ ho40 (kd_ (w := w) (g := g) (row := none) Q0))
    have n4_ := ba_.mk (pc_ (g := gb207) (o := .cells #[.int .i64 0, .slice none 0 0, .slice none 0 0, .slice none 0 0] 31 (0, 0)) (Qf BK207.out) hb)
    have n5_ := ba_.mk (pc_ (g := gb210) (o := .cells #[.int .i64 t208, .slice Ao35 x211001_1.length co35, .slice Ao36 x211002_1.length co36, .slice none 0 0] 31 (0, 0)) (Qf BK210.out) hb)
    have n6_ := ba_.mk (ga_.below Q4 hb)
    have n7_ := ba_.mk (pc_ (g := gb219) (o := .cells #[.int .i64 t213, .int .i64 t214, .slice Ao26 t215.length co26] 65 (0, 0)) (Qf BK219.out) hb)
    have n8_ := ba_.mk (pc_ (g := gb224) (o := .cells #[.slice Ao29 t220.length co29] 60 (0, 0)) (Qf BK224.out) hb)
    have n9_ := ba_.mk (ra_.trans Q0 (ra_.sf_ hb g none) (.inl rfl))
    have n10_ := ba_.mk (hb_ Xb hb)
    clear HO_211001
    clear HO_211002
    clear HO217
    clear BK207
    clear BK210
    clear HI0
    clear BK219
    clear BK224
    clear HK
    clear HB
    clear HO222
    have HO_211001 := n0_
    have HO_211002 := n1_
    have HO217 := n2_
    have HO233 := n3_
    have BK207 := n4_
    have BK210 := n5_
    have HI0 := n6_
    have BK219 := n7_
    have BK224 := n8_
    have HK := n9_
    have HB := n10_
    clear n0_ n1_ n2_ n3_ n4_ n5_ n6_ n7_ n8_ n9_ n10_
    clear hb ho40
    refine hK.out _ _ ⟨(la_ BK210.out 0).trans rfl, (la_ BK210.out 1).trans rfl, (la_ BK210.out 2).trans rfl, (la_ BK210.out 3).trans rfl, (la_ BK219.out 0).trans rfl, (la_ BK219.out 1).trans rfl, (la_ BK219.out 2).trans rfl, (la_ BK224.out 0).trans rfl⟩ (fun hHeld => ?_)
    clear hK K
    refine ug_ (a' := ?_) ?_ ?_
    rotate_left
    ·exact Qai
    refine one_ (i := 3) (N := some 33) Qa2 rfl rfl Qz Qc (fun K hK => ?_)
    refine Kd.tk_ k65 _ 65 ?hg_656 (N' := 33) ?hd_656 (xs := ([(⟨t213, t214, t215⟩ : S65)] : List (S65))) (inner := [.int .i64 t213, .int .i64 t214, .slice Ao26 t215.length co26]) (ok := (fun k_ => (w.heap.size ≤ k_) ∧ some k_ ≠ (.slice Ao35 x211001_1.length co35 : Value).ownBlock ∧ some k_ ≠ (.slice Ao36 x211002_1.length co36 : Value).ownBlock ∧ some k_ ≠ (v232 : Value).ownBlock ∧ k_ ≠ gb207 ∧ k_ ≠ gb210 ∧ k_ ≠ gb219 ∧ k_ ≠ gb224 ∧ k_ ≠ g)) (okp := (fun k_ => (w.heap.size ≤ k_) ∧ some k_ ≠ (.slice Ao35 x211001_1.length co35 : Value).ownBlock ∧ some k_ ≠ (.slice Ao36 x211002_1.length co36 : Value).ownBlock ∧ some k_ ≠ (v232 : Value).ownBlock ∧ k_ ≠ gb207 ∧ k_ ≠ gb210 ∧ k_ ≠ gb219 ∧ k_ ≠ gb224 ∧ k_ ≠ g)) ?hr_656 ?hp_656 (fun _ hk => hk) ((show ∀ k_, w39.heap.size ≤ k_ → (fun k_ => (w.heap.size ≤ k_) ∧ some k_ ≠ (.slice Ao35 x211001_1.length co35 : Value).ownBlock ∧ some k_ ≠ (.slice Ao36 x211002_1.length co36 : Value).ownBlock ∧ some k_ ≠ (v232 : Value).ownBlock ∧ k_ ≠ gb207 ∧ k_ ≠ gb210 ∧ k_ ≠ gb219 ∧ k_ ≠ gb224 ∧ k_ ≠ g) k_ from fun k_ hk => ⟨(Nat.le_trans (kd_ (w := w) (g := g) (row := none) Q0) hk), Kd.fresh' (Kd.N_lt (Qp HO_211001.out)) k_ hk, Kd.fresh' (Kd.N_lt (Qp HO_211002.out)) k_ hk, Kd.fresh' (Kd.N_lt (Qp HO233.out)) k_ hk, Kd.ff_ (g := gb207) (o := .cells #[.int .i64 0, .slice none 0 0, .slice none 0 0, .slice none 0 0] 31 (0, 0)) (Qf BK207.out) k_ hk, Kd.ff_ (g := gb210) (o := .cells #[.int .i64 t208, .slice Ao35 x211001_1.length co35, .slice Ao36 x211002_1.length co36, .slice none 0 0] 31 (0, 0)) (Qf BK210.out) k_ hk, Kd.ff_ (g := gb219) (o := .cells #[.int .i64 t213, .int .i64 t214, .slice Ao26 t215.length co26] 65 (0, 0)) (Qf BK219.out) k_ hk, Kd.ff_ (g := gb224) (o := .cells #[.slice Ao29 t220.length co29] 60 (0, 0)) (Qf BK224.out) k_ hk, ga_.fresh Q4 k_ hk⟩) _ (Nat.le_refl _)) (Below.refl _ _) (Nat.le_refl _) Qj ?_; (case hd_656 => rfl); (case hg_656 => rfl); (case hr_656 => exact Qt); (case hp_656 => exact (Reps.c3 (show Kd.FK k65 _ _ (⟨t213, t214, t215⟩ : S65) [.int .i64 t213, .int .i64 t214, .slice Ao26 t215.length co26] from (hd1_ _ _ (⟨t213, t214, t215⟩ : S65) (Kd.wb_ (Kd.fd_ (ok' := (fun k_ => (w.heap.size ≤ k_) ∧ some k_ ≠ (.slice Ao35 x211001_1.length co35 : Value).ownBlock ∧ some k_ ≠ (.slice Ao36 x211002_1.length co36 : Value).ownBlock ∧ some k_ ≠ (v232 : Value).ownBlock ∧ k_ ≠ gb207 ∧ k_ ≠ gb210 ∧ k_ ≠ gb219 ∧ k_ ≠ gb224 ∧ k_ ≠ g)) (ga_.apart HI0.out (Kd.xe_ (Kd.xe_ (Kd.xe_ (Kd.xe_ (Kd.ne_ (Kd.ne_ (Kd.ne_ (HO217.out) (Kd.lg_ HO_211001.out) Qc) (Kd.lg_ HO_211002.out) Qc) (Kd.lg_ HO233.out) Qc) BK207.out Qc) BK210.out Qc) BK219.out Qc) BK224.out Qc) Qc) (fun k_ hk => ⟨hk.1.1.1.1.1.1.1.1, ⟨hk.1.1.1.1.1.1.1.2, ⟨hk.1.1.1.1.1.1.2, ⟨hk.1.1.1.1.1.2, ⟨hk.1.1.1.1.2, ⟨hk.1.1.1.2, ⟨hk.1.1.2, ⟨hk.1.2, hk.2⟩⟩⟩⟩⟩⟩⟩⟩))).2.1 (Kd.R_F (Kd.fd_ (ok' := (fun k_ => (w.heap.size ≤ k_) ∧ some k_ ≠ (.slice Ao35 x211001_1.length co35 : Value).ownBlock ∧ some k_ ≠ (.slice Ao36 x211002_1.length co36 : Value).ownBlock ∧ some k_ ≠ (v232 : Value).ownBlock ∧ k_ ≠ gb207 ∧ k_ ≠ gb210 ∧ k_ ≠ gb219 ∧ k_ ≠ gb224 ∧ k_ ≠ g)) (ga_.apart HI0.out (Kd.xe_ (Kd.xe_ (Kd.xe_ (Kd.xe_ (Kd.ne_ (Kd.ne_ (Kd.ne_ (HO217.out) (Kd.lg_ HO_211001.out) Qc) (Kd.lg_ HO_211002.out) Qc) (Kd.lg_ HO233.out) Qc) BK207.out Qc) BK210.out Qc) BK219.out Qc) BK224.out Qc) Qc) (fun k_ hk => ⟨hk.1.1.1.1.1.1.1.1, ⟨hk.1.1.1.1.1.1.1.2, ⟨hk.1.1.1.1.1.1.2, ⟨hk.1.1.1.1.1.2, ⟨hk.1.1.1.1.2, ⟨hk.1.1.1.2, ⟨hk.1.1.2, ⟨hk.1.2, hk.2⟩⟩⟩⟩⟩⟩⟩⟩))))) (Reps.none _ _)))
    intro v226 w41 ho42 hb hg_ hnew_
    clear hg_ hnew_
    (first | rw [← Ny225.out] at ho42 | (simp only [Int.reduceToNat] at ho42; rw [← Ny225.out] at ho42))
    have n0_ := ba_.mk (Kd.te_ (Qp HO_211001.out) (Kd.pi_ ho42) hb)
    have n1_ := ba_.mk (Kd.te_ (Qp HO_211002.out) (Kd.pi_ ho42) hb)
    have n2_ := ba_.mk (Kd.te_ (Qp HO233.out) (Kd.pi_ ho42) hb)
    have n3_ := ba_.mk (Kd.gj_ ho42 (kd_ (w := w) (g := g) (row := none) Q0))
    have n4_ := ba_.mk (pc_ (g := gb207) (o := .cells #[.int .i64 0, .slice none 0 0, .slice none 0 0, .slice none 0 0] 31 (0, 0)) (Qf BK207.out) hb)
    have n5_ := ba_.mk (pc_ (g := gb210) (o := .cells #[.int .i64 t208, .slice Ao35 x211001_1.length co35, .slice Ao36 x211002_1.length co36, .slice none 0 0] 31 (0, 0)) (Qf BK210.out) hb)
    have n6_ := ba_.mk (ga_.below Q4 hb)
    have n7_ := ba_.mk (pc_ (g := gb219) (o := .cells #[.int .i64 t213, .int .i64 t214, .slice Ao26 t215.length co26] 65 (0, 0)) (Qf BK219.out) hb)
    have n8_ := ba_.mk (pc_ (g := gb224) (o := .cells #[.slice Ao29 t220.length co29] 60 (0, 0)) (Qf BK224.out) hb)
    have n9_ := ba_.mk (ra_.trans Q0 (ra_.sf_ hb g none) (.inl rfl))
    have n10_ := ba_.mk (hb_ Xb hb)
    clear HO_211001
    clear HO_211002
    clear HO233
    clear BK207
    clear BK210
    clear HI0
    clear BK219
    clear BK224
    clear HK
    clear HB
    clear HO217
    have HO_211001 := n0_
    have HO_211002 := n1_
    have HO233 := n2_
    have HO227 := n3_
    have BK207 := n4_
    have BK210 := n5_
    have HI0 := n6_
    have BK219 := n7_
    have BK224 := n8_
    have HK := n9_
    have HB := n10_
    clear n0_ n1_ n2_ n3_ n4_ n5_ n6_ n7_ n8_ n9_ n10_
    clear hb ho42
    obtain ⟨Ao44, co44, eo44⟩ := Kd.og_ HO227.out
    (first | subst eo44 | (injection eo44 with f1_ f2_ f3_; have f4_ := f1_.symm; have f5_ := f3_.symm; clear f1_ f2_ f3_; subst f4_; subst f5_))
    refine hK.out _ _ ⟨(la_ BK210.out 0).trans rfl, (la_ BK210.out 1).trans rfl, (la_ BK210.out 2).trans rfl, (la_ BK210.out 3).trans rfl, (la_ BK219.out 0).trans rfl, (la_ BK219.out 1).trans rfl, (la_ BK219.out 2).trans rfl, (la_ BK224.out 0).trans rfl⟩ (fun hHeld => ?_)
    clear hK K
    refine ug_ (a' := ?_) ?_ ?_
    rotate_left
    ·show Act.put _ (some 33) _ = _
     simp only [Act.put, List.setIfInBounds_toArray, List.set_cons_zero, List.set_cons_succ, yb_, ac_]
     rfl
    refine one_ (i := 4) (N := some 34) Qa3 rfl rfl Qz Qc (fun K hK => ?_)
    refine Kd.wg_ k65 w.heap.size (by rfl) (.tmp 31) (.tmp 33) 27 65 (.agg #[(.int .i64 0), (.int .i64 0), (.slice none 0 0)]) 40 rfl Tryz.underlying27 cd1_ rfl Qc Qa (.slice Ao35 x211001_1.length co35) x211001_1 y225 _ _ _ (fun k_ => (w.heap.size ≤ k_) ∧ some k_ ≠ (.slice Ao36 x211002_1.length co36 : Value).ownBlock ∧ some k_ ≠ (v232 : Value).ownBlock ∧ k_ ≠ gb207 ∧ k_ ≠ gb210 ∧ k_ ≠ gb219 ∧ k_ ≠ gb224 ∧ k_ ≠ g) (fun k_ => ((fun k_ => (w.heap.size ≤ k_) ∧ some k_ ≠ (.slice Ao36 x211002_1.length co36 : Value).ownBlock ∧ some k_ ≠ (v232 : Value).ownBlock ∧ k_ ≠ gb207 ∧ k_ ≠ gb210 ∧ k_ ≠ gb219 ∧ k_ ≠ gb224 ∧ k_ ≠ g)) k_ ∧ some k_ ≠ (.slice Ao35 x211001_1.length co35 : Value).ownBlock) rfl rfl ?aO ?aR (fun _ hk => hk) ?aF (Below.refl _ _) ?aS ?aL ?_
    (case aR => exact (by skip; exact Kd.N_F (Kd.yc_ (ok' := (fun k_ => ((fun k_ => (w.heap.size ≤ k_) ∧ some k_ ≠ (.slice Ao36 x211002_1.length co36 : Value).ownBlock ∧ some k_ ≠ (v232 : Value).ownBlock ∧ k_ ≠ gb207 ∧ k_ ≠ gb210 ∧ k_ ≠ gb219 ∧ k_ ≠ gb224 ∧ k_ ≠ g)) k_ ∧ some k_ ≠ (.slice Ao35 x211001_1.length co35 : Value).ownBlock)) (HO227.out) (fun k_ hk => ⟨⟨hk.1, ⟨hk.2.2.1, ⟨hk.2.2.2.1, ⟨hk.2.2.2.2.1, ⟨hk.2.2.2.2.2.1, ⟨hk.2.2.2.2.2.2.1, ⟨hk.2.2.2.2.2.2.2.1, hk.2.2.2.2.2.2.2.2⟩⟩⟩⟩⟩⟩⟩, hk.2.1⟩))))
    (case aF => exact (fun k_ hk => ⟨(Nat.le_trans (kd_ (w := w) (g := g) (row := none) Q0) hk), Kd.fresh' (Kd.N_lt (Qp HO_211002.out)) k_ hk, Kd.fresh' (Kd.N_lt (Qp HO233.out)) k_ hk, Kd.ff_ (g := gb207) (o := .cells #[.int .i64 0, .slice none 0 0, .slice none 0 0, .slice none 0 0] 31 (0, 0)) (Qf BK207.out) k_ hk, Kd.ff_ (g := gb210) (o := .cells #[.int .i64 t208, .slice Ao35 x211001_1.length co35, .slice Ao36 x211002_1.length co36, .slice none 0 0] 31 (0, 0)) (Qf BK210.out) k_ hk, Kd.ff_ (g := gb219) (o := .cells #[.int .i64 t213, .int .i64 t214, .slice Ao26 t215.length co26] 65 (0, 0)) (Qf BK219.out) k_ hk, Kd.ff_ (g := gb224) (o := .cells #[.slice Ao29 t220.length co29] 60 (0, 0)) (Qf BK224.out) k_ hk, ga_.fresh Q4 k_ hk⟩))
    (case aO => exact (by (with_reducible repeat (first | apply Kd.cc_ | apply Kd.dc_ | apply Kd.oc_)); exact Kd.yc_ HO_211001.out (fun _ hk => ⟨hk.1.1.1, ⟨hk.1.1.2.1, ⟨hk.1.2, ⟨hk.1.1.2.2.2.2.1, ⟨hk.1.1.2.2.2.2.2.1, ⟨hk.1.1.2.2.2.2.2.2.2.1, ⟨hk.1.1.2.2.2.2.2.2.2.2, hk.1.1.2.2.2.2.2.2.1⟩⟩⟩⟩⟩⟩⟩)))
    (case aS => exact Y1)
    (case aL => have := LMc14.out; omega)
    intro v229 w43 ho hb hg hat
    rw [← Ny228.out] at ho
    have n0_ := ba_.mk (Kd.vg_ (ok := (fun k_ => (w.heap.size ≤ k_) ∧ some k_ ≠ (v232 : Value).ownBlock ∧ some k_ ≠ (.slice Ao44 y225.length co44 : Value).ownBlock ∧ k_ ≠ gb207 ∧ k_ ≠ gb210 ∧ k_ ≠ g ∧ k_ ≠ gb219 ∧ k_ ≠ gb224)) (by (with_reducible repeat (first | apply Kd.cc_ | apply Kd.dc_ | apply Kd.oc_)); exact Kd.yc_ HO_211002.out (fun _ hk => ⟨⟨hk.1.1.1, ⟨hk.1.2, ⟨hk.2, ⟨hk.1.1.2.2.2.2.1, ⟨hk.1.1.2.2.2.2.2.1, ⟨hk.1.1.2.2.2.2.2.2.1, ⟨hk.1.1.2.2.2.2.2.2.2.1, hk.1.1.2.2.2.2.2.2.2.2⟩⟩⟩⟩⟩⟩⟩, hk.1.1.2.1⟩)) hg hat)
    have n1_ := ba_.mk (ce_ (g := gb207) (o := .cells #[.int .i64 0, .slice none 0 0, .slice none 0 0, .slice none 0 0] 31 (0, 0)) (Qf BK207.out) hg (Kd.N_ne HO_211001.out BK207.out Qc))
    have n2_ := ba_.mk (ce_ (g := gb210) (o := .cells #[.int .i64 t208, .slice Ao35 x211001_1.length co35, .slice Ao36 x211002_1.length co36, .slice none 0 0] 31 (0, 0)) (Qf BK210.out) hg (Kd.N_ne HO_211001.out BK210.out Qc))
    have n3_ := ba_.mk (ga_.grown Q4 hg (ga_.dn_ HI0.out HO_211001.out Qc))
    have n4_ := ba_.mk (ce_ (g := gb219) (o := .cells #[.int .i64 t213, .int .i64 t214, .slice Ao26 t215.length co26] 65 (0, 0)) (Qf BK219.out) hg (Kd.yx_ HO_211001.out (fun _ hk => hk.1.1.2.2.2.2.2.2.2.1)))
    have n5_ := ba_.mk (ce_ (g := gb224) (o := .cells #[.slice Ao29 t220.length co29] 60 (0, 0)) (Qf BK224.out) hg (Kd.N_ne HO_211001.out BK224.out Qc))
    have n6_ := ba_.mk (Kd.vg_ (ok := (fun k_ => (w.heap.size ≤ k_) ∧ some k_ ≠ (.slice Ao36 x211002_1.length co36 : Value).ownBlock ∧ some k_ ≠ (.slice Ao44 y225.length co44 : Value).ownBlock ∧ k_ ≠ gb207 ∧ k_ ≠ gb210 ∧ k_ ≠ gb219 ∧ k_ ≠ gb224 ∧ k_ ≠ g)) (by (with_reducible repeat (first | apply Kd.cc_ | apply Kd.dc_ | apply Kd.oc_)); exact Kd.yc_ HO233.out (fun _ hk => ⟨⟨hk.1.1, ⟨hk.1.2.2.1, ⟨hk.2, ⟨hk.1.2.2.2.2.1, ⟨hk.1.2.2.2.2.2.1, ⟨hk.1.2.2.2.2.2.2.1, ⟨hk.1.2.2.2.2.2.2.2.1, hk.1.2.2.2.2.2.2.2.2⟩⟩⟩⟩⟩⟩⟩, hk.1.2.1⟩)) hg hat)
    have n7_ := ba_.mk (Kd.vg_ (ok := (fun k_ => (w.heap.size ≤ k_) ∧ some k_ ≠ (.slice Ao36 x211002_1.length co36 : Value).ownBlock ∧ some k_ ≠ (v232 : Value).ownBlock ∧ k_ ≠ gb207 ∧ k_ ≠ gb210 ∧ k_ ≠ gb219 ∧ k_ ≠ gb224 ∧ k_ ≠ g)) (by (with_reducible repeat (first | apply Kd.cc_ | apply Kd.dc_ | apply Kd.oc_)); exact Kd.yc_ HO227.out (fun _ hk => ⟨⟨hk.1, ⟨hk.2.2.1, ⟨hk.2.2.2.1, ⟨hk.2.2.2.2.1, ⟨hk.2.2.2.2.2.1, ⟨hk.2.2.2.2.2.2.1, ⟨hk.2.2.2.2.2.2.2.1, hk.2.2.2.2.2.2.2.2⟩⟩⟩⟩⟩⟩⟩, hk.2.1⟩)) hg hat)
    have n8_ := ba_.mk (gg_ Xb HL.out hb)
    have n9_ := ba_.mk (ra_.trans Q0 (ra_.ki_ hg g) (Kd.ft_ HO_211001.out))
    have n10_ := ba_.mk (ho)
    clear HO_211002
    clear BK207
    clear BK210
    clear HI0
    clear BK219
    clear BK224
    clear HO233
    clear HO227
    clear HB
    clear HK
    clear HO_211001
    have HO_211002 := n0_
    have BK207 := n1_
    have BK210 := n2_
    have HI0 := n3_
    have BK219 := n4_
    have BK224 := n5_
    have HO233 := n6_
    have HO227 := n7_
    have HB := n8_
    have HK := n9_
    have HO230 := n10_
    clear n0_ n1_ n2_ n3_ n4_ n5_ n6_ n7_ n8_ n9_ n10_
    clear ho hb hg hat
    refine hK.out _ _ ⟨(la_ BK210.out 0).trans rfl, (la_ BK210.out 1).trans rfl, (la_ BK210.out 2).trans rfl, (la_ BK210.out 3).trans rfl, (la_ BK219.out 0).trans rfl, (la_ BK219.out 1).trans rfl, (la_ BK219.out 2).trans rfl, (la_ BK224.out 0).trans rfl⟩ (fun hHeld => ?_)
    clear hK K
    refine ug_ (a' := ?_) ?_ ?_
    rotate_left
    ·exact Qah
    refine qc_ (i := 10) (N := some 40) (v := ?_) (a' := ?_) Y3 rfl rfl Qn Qe (Or.inl ⟨by rfl, ?_⟩) ?_ ?_
    rotate_left
    ·exact Qg
    rotate_left
    ·exact Qd
    exact ug_ (by simp only [putAll, Act.put, List.setIfInBounds_toArray, List.set_cons_zero, List.set_cons_succ]) (hCont (.slice Ao44 y225.length co44, v229, v232) _ ⟨hHeld, (by (with_reducible repeat (first | apply Kd.cc_ | apply Kd.dc_ | apply Kd.oc_)); exact Kd.yc_ HO227.out (fun _ hk => ⟨hk.1.1, ⟨hk.2, ⟨hk.1.2.2.1, ⟨hk.1.2.1, ⟨hk.1.2.2.2.2.2.2.2, ⟨hk.1.2.2.2.1, ⟨hk.1.2.2.2.2.1, ⟨hk.1.2.2.2.2.2.1, hk.1.2.2.2.2.2.2.1⟩⟩⟩⟩⟩⟩⟩⟩)), (by (with_reducible repeat (first | apply Kd.cc_ | apply Kd.dc_ | apply Kd.oc_)); exact Kd.yc_ HO230.out (fun _ hk => ⟨hk.1, ⟨hk.2.2.1, ⟨hk.2.1, ⟨hk.2.2.2.2.2.2.2, ⟨hk.2.2.2.1, ⟨hk.2.2.2.2.1, ⟨hk.2.2.2.2.2.1, hk.2.2.2.2.2.2.1⟩⟩⟩⟩⟩⟩⟩)), (by (with_reducible repeat (first | apply Kd.cc_ | apply Kd.dc_ | apply Kd.oc_)); exact Kd.yc_ HO233.out (fun _ hk => ⟨hk.1.1, ⟨hk.1.2.2.1, ⟨hk.2, ⟨hk.1.2.1, ⟨hk.1.2.2.2.2.2.2.2, ⟨hk.1.2.2.2.1, ⟨hk.1.2.2.2.2.1, ⟨hk.1.2.2.2.2.2.1, hk.1.2.2.2.2.2.2.1⟩⟩⟩⟩⟩⟩⟩⟩)), (by (with_reducible repeat (first | apply Kd.cc_ | apply Kd.dc_ | apply Kd.oc_)); exact Kd.yc_ HO_211002.out (fun _ hk => ⟨hk.1.1, ⟨hk.1.2.2.1, ⟨hk.2, ⟨hk.1.2.1, ⟨hk.1.2.2.2.2.2.1, ⟨hk.1.2.2.2.1, ⟨hk.1.2.2.2.2.1, ⟨hk.1.2.2.2.2.2.2.1, hk.1.2.2.2.2.2.2.2⟩⟩⟩⟩⟩⟩⟩⟩)), (Qf BK207.out), (Qf BK210.out), (Qf BK219.out), (Qf BK224.out), Q4, Q0, Xb⟩)
   rintro ⟨v226, v229, v232⟩ w45 ⟨hS_, h0_, h1_, h2_, h3_, h4_, h5_, h6_, h7_, h8_, h9_, h10_⟩
   have n0_ : ba_ (Kd.N k65 65 w45 w.heap.size (fun k_ => (w.heap.size ≤ k_) ∧ some k_ ≠ (v229 : Value).ownBlock ∧ some k_ ≠ (v232 : Value).ownBlock ∧ some k_ ≠ (.slice Ao36 x211002_1.length co36 : Value).ownBlock ∧ k_ ≠ g ∧ k_ ≠ gb207 ∧ k_ ≠ gb210 ∧ k_ ≠ gb219 ∧ k_ ≠ gb224) v226 y225) := ⟨h0_⟩
   have n1_ : ba_ (Kd.N k65 65 w45 w.heap.size (fun k_ => (w.heap.size ≤ k_) ∧ some k_ ≠ (v232 : Value).ownBlock ∧ some k_ ≠ (.slice Ao36 x211002_1.length co36 : Value).ownBlock ∧ k_ ≠ g ∧ k_ ≠ gb207 ∧ k_ ≠ gb210 ∧ k_ ≠ gb219 ∧ k_ ≠ gb224) v229 y228) := ⟨h1_⟩
   have n2_ : ba_ (Kd.N k60 60 w45 w.heap.size (fun k_ => (w.heap.size ≤ k_) ∧ some k_ ≠ (v226 : Value).ownBlock ∧ some k_ ≠ (v229 : Value).ownBlock ∧ some k_ ≠ (.slice Ao36 x211002_1.length co36 : Value).ownBlock ∧ k_ ≠ g ∧ k_ ≠ gb207 ∧ k_ ≠ gb210 ∧ k_ ≠ gb219 ∧ k_ ≠ gb224) v232 y231) := ⟨h2_⟩
   have n3_ : ba_ (Kd.N k60 60 w45 w.heap.size (fun k_ => (w.heap.size ≤ k_) ∧ some k_ ≠ (v226 : Value).ownBlock ∧ some k_ ≠ (v229 : Value).ownBlock ∧ some k_ ≠ (v232 : Value).ownBlock ∧ k_ ≠ g ∧ k_ ≠ gb207 ∧ k_ ≠ gb210 ∧ k_ ≠ gb219 ∧ k_ ≠ gb224) (.slice Ao36 x211002_1.length co36) x211002_1) := ⟨h3_⟩
   have n4_ : ba_ (w45.heap[gb207]? = some (.cells #[.int .i64 0, .slice none 0 0, .slice none 0 0, .slice none 0 0] 31 (0, 0))) := ⟨h4_⟩
   have n5_ : ba_ (w45.heap[gb210]? = some (.cells #[.int .i64 t208, .slice Ao35 x211001_1.length co35, .slice Ao36 x211002_1.length co36, .slice none 0 0] 31 (0, 0))) := ⟨h5_⟩
   have n6_ : ba_ (w45.heap[gb219]? = some (.cells #[.int .i64 t213, .int .i64 t214, .slice Ao26 t215.length co26] 65 (0, 0))) := ⟨h6_⟩
   have n7_ : ba_ (w45.heap[gb224]? = some (.cells #[.slice Ao29 t220.length co29] 60 (0, 0))) := ⟨h7_⟩
   have n8_ : ba_ (ga_ w0 w45 g s0_0 t218) := ⟨h8_⟩
   have n9_ : ba_ (ra_ w w45 g none) := ⟨h9_⟩
   have n10_ : ba_ (Below w0.heap.size w0 w45) := ⟨h10_⟩
   clear HO_211001
   clear HO_211002
   clear HO217
   clear HO222
   clear BK207
   clear BK210
   clear BK219
   clear BK224
   clear HI0
   clear HK
   clear HB
   clear h0_ h1_ h2_ h3_ h4_ h5_ h6_ h7_ h8_ h9_ h10_
   have HO227 := n0_
   have HO230 := n1_
   have HO233 := n2_
   have HO_211002 := n3_
   have BK207 := n4_
   have BK210 := n5_
   have BK219 := n6_
   have BK224 := n7_
   have HI0 := n8_
   have HK := n9_
   have HB := n10_
   clear n0_ n1_ n2_ n3_ n4_ n5_ n6_ n7_ n8_ n9_ n10_
   have hHeld : w45.cell? ⟨gb210, 0, none⟩ = some (.int .i64 t208) ∧ w45.cell? ⟨gb210, 1, none⟩ = some (.slice Ao35 x211001_1.length co35) ∧ w45.cell? ⟨gb210, 2, none⟩ = some (.slice Ao36 x211002_1.length co36) ∧ w45.cell? ⟨gb210, 3, none⟩ = some (.slice none 0 0) ∧ w45.cell? ⟨gb219, 0, none⟩ = some (.int .i64 t213) ∧ w45.cell? ⟨gb219, 1, none⟩ = some (.int .i64 t214) ∧ w45.cell? ⟨gb219, 2, none⟩ = some (.slice Ao26 t215.length co26) ∧ w45.cell? ⟨gb224, 0, none⟩ = some (.slice Ao29 t220.length co29) := hS_
   obtain ⟨Ao47, co47, eo47⟩ := Kd.og_ HO233.out
   (first | subst eo47 | (injection eo47 with f1_ f2_ f3_; have f4_ := f1_.symm; have f5_ := f3_.symm; clear f1_ f2_ f3_; subst f4_; subst f5_))
   refine ug_ (a' := ?_) ?_ ?_
   rotate_left
   ·simp only [putAll, Act.put, List.setIfInBounds_toArray, List.set_cons_zero, List.set_cons_succ]
    rfl
   refine one_ (i := 9) (N := some 39) Qax rfl rfl Qz Qc (fun K hK => ?_)
   refine Kd.wg_ k60 w.heap.size (by rfl) (.tmp 36) (.tmp 38) 28 60 (.agg #[(.slice none 0 0)]) 24 rfl Tryz.underlying28 info60 rfl Qc Qa (.slice Ao36 x211002_1.length co36) x211002_1 y231 _ _ _ (fun k_ => (w.heap.size ≤ k_) ∧ some k_ ≠ (v226 : Value).ownBlock ∧ some k_ ≠ (v229 : Value).ownBlock ∧ k_ ≠ gb207 ∧ k_ ≠ gb210 ∧ k_ ≠ gb219 ∧ k_ ≠ gb224 ∧ k_ ≠ g) (fun k_ => ((fun k_ => (w.heap.size ≤ k_) ∧ some k_ ≠ (v226 : Value).ownBlock ∧ some k_ ≠ (v229 : Value).ownBlock ∧ k_ ≠ gb207 ∧ k_ ≠ gb210 ∧ k_ ≠ gb219 ∧ k_ ≠ gb224 ∧ k_ ≠ g)) k_ ∧ some k_ ≠ (.slice Ao36 x211002_1.length co36 : Value).ownBlock) rfl rfl ?aO ?aR (fun _ hk => hk) ?aF (Below.refl _ _) ?aS ?aL ?_
   (case aR => exact (by skip; exact Kd.N_F (Kd.yc_ (ok' := (fun k_ => ((fun k_ => (w.heap.size ≤ k_) ∧ some k_ ≠ (v226 : Value).ownBlock ∧ some k_ ≠ (v229 : Value).ownBlock ∧ k_ ≠ gb207 ∧ k_ ≠ gb210 ∧ k_ ≠ gb219 ∧ k_ ≠ gb224 ∧ k_ ≠ g)) k_ ∧ some k_ ≠ (.slice Ao36 x211002_1.length co36 : Value).ownBlock)) (HO233.out) (fun k_ hk => ⟨⟨hk.1, ⟨hk.2.1, ⟨hk.2.2.1, ⟨hk.2.2.2.2.2.1, ⟨hk.2.2.2.2.2.2.1, ⟨hk.2.2.2.2.2.2.2.1, ⟨hk.2.2.2.2.2.2.2.2, hk.2.2.2.2.1⟩⟩⟩⟩⟩⟩⟩, hk.2.2.2.1⟩))))
   (case aF => exact (fun k_ hk => ⟨(Nat.le_trans (kd_ (w := w) (g := g) (row := none) Q0) hk), Kd.fresh' (Kd.N_lt (Qp HO227.out)) k_ hk, Kd.fresh' (Kd.N_lt (Qp HO230.out)) k_ hk, Kd.ff_ (g := gb207) (o := .cells #[.int .i64 0, .slice none 0 0, .slice none 0 0, .slice none 0 0] 31 (0, 0)) (Qf BK207.out) k_ hk, Kd.ff_ (g := gb210) (o := .cells #[.int .i64 t208, .slice Ao35 x211001_1.length co35, .slice Ao36 x211002_1.length co36, .slice none 0 0] 31 (0, 0)) (Qf BK210.out) k_ hk, Kd.ff_ (g := gb219) (o := .cells #[.int .i64 t213, .int .i64 t214, .slice Ao26 t215.length co26] 65 (0, 0)) (Qf BK219.out) k_ hk, Kd.ff_ (g := gb224) (o := .cells #[.slice Ao29 t220.length co29] 60 (0, 0)) (Qf BK224.out) k_ hk, ga_.fresh Q4 k_ hk⟩))
   (case aO => exact (by (with_reducible repeat (first | apply Kd.cc_ | apply Kd.dc_ | apply Kd.oc_)); exact Kd.yc_ HO_211002.out (fun _ hk => ⟨hk.1, ⟨hk.2.1, ⟨hk.2.2.1, ⟨hk.2.2.2.2.2.1, ⟨hk.2.2.2.2.2.2.1, ⟨hk.2.2.2.2.2.2.2.1, ⟨hk.2.2.2.2.2.2.2.2, hk.2.2.2.2.1⟩⟩⟩⟩⟩⟩⟩)))
   (case aS => exact Y1)
   (case aL => have := LMc15.out; omega)
   intro v235 w46 ho hb hg hat
   rw [← Ny234.out] at ho
   have n0_ := ba_.mk (ce_ (g := gb207) (o := .cells #[.int .i64 0, .slice none 0 0, .slice none 0 0, .slice none 0 0] 31 (0, 0)) (Qf BK207.out) hg (Kd.N_ne HO_211002.out BK207.out Qc))
   have n1_ := ba_.mk (ce_ (g := gb210) (o := .cells #[.int .i64 t208, .slice Ao35 x211001_1.length co35, .slice Ao36 x211002_1.length co36, .slice none 0 0] 31 (0, 0)) (Qf BK210.out) hg (Kd.N_ne HO_211002.out BK210.out Qc))
   have n2_ := ba_.mk (ga_.grown Q4 hg (ga_.dn_ HI0.out HO_211002.out Qc))
   have n3_ := ba_.mk (ce_ (g := gb219) (o := .cells #[.int .i64 t213, .int .i64 t214, .slice Ao26 t215.length co26] 65 (0, 0)) (Qf BK219.out) hg (Kd.N_ne HO_211002.out BK219.out Qc))
   have n4_ := ba_.mk (ce_ (g := gb224) (o := .cells #[.slice Ao29 t220.length co29] 60 (0, 0)) (Qf BK224.out) hg (Kd.yx_ HO_211002.out (fun _ hk => hk.2.2.2.2.2.2.2.2)))
   have n5_ := ba_.mk (Kd.vg_ (ok := (fun k_ => (w.heap.size ≤ k_) ∧ some k_ ≠ (v229 : Value).ownBlock ∧ some k_ ≠ (.slice Ao47 y231.length co47 : Value).ownBlock ∧ k_ ≠ g ∧ k_ ≠ gb207 ∧ k_ ≠ gb210 ∧ k_ ≠ gb219 ∧ k_ ≠ gb224)) (by (with_reducible repeat (first | apply Kd.cc_ | apply Kd.dc_ | apply Kd.oc_)); exact Kd.yc_ HO227.out (fun _ hk => ⟨⟨hk.1, ⟨hk.2.1, ⟨hk.2.2.1, ⟨hk.2.2.2.2.1, ⟨hk.2.2.2.2.2.1, ⟨hk.2.2.2.2.2.2.1, ⟨hk.2.2.2.2.2.2.2.1, hk.2.2.2.2.2.2.2.2⟩⟩⟩⟩⟩⟩⟩, hk.2.2.2.1⟩)) hg hat)
   have n6_ := ba_.mk (Kd.vg_ (ok := (fun k_ => (w.heap.size ≤ k_) ∧ some k_ ≠ (.slice Ao47 y231.length co47 : Value).ownBlock ∧ k_ ≠ g ∧ k_ ≠ gb207 ∧ k_ ≠ gb210 ∧ k_ ≠ gb219 ∧ k_ ≠ gb224)) (by (with_reducible repeat (first | apply Kd.cc_ | apply Kd.dc_ | apply Kd.oc_)); exact Kd.yc_ HO230.out (fun _ hk => ⟨⟨hk.1, ⟨hk.2.1, ⟨hk.2.2.2.1, ⟨hk.2.2.2.2.1, ⟨hk.2.2.2.2.2.1, ⟨hk.2.2.2.2.2.2.1, hk.2.2.2.2.2.2.2⟩⟩⟩⟩⟩⟩, hk.2.2.1⟩)) hg hat)
   have n7_ := ba_.mk (Kd.vg_ (ok := (fun k_ => (w.heap.size ≤ k_) ∧ some k_ ≠ (v226 : Value).ownBlock ∧ some k_ ≠ (v229 : Value).ownBlock ∧ k_ ≠ g ∧ k_ ≠ gb207 ∧ k_ ≠ gb210 ∧ k_ ≠ gb219 ∧ k_ ≠ gb224)) (by (with_reducible repeat (first | apply Kd.cc_ | apply Kd.dc_ | apply Kd.oc_)); exact Kd.yc_ HO233.out (fun _ hk => ⟨⟨hk.1, ⟨hk.2.1, ⟨hk.2.2.1, ⟨hk.2.2.2.2.1, ⟨hk.2.2.2.2.2.1, ⟨hk.2.2.2.2.2.2.1, ⟨hk.2.2.2.2.2.2.2.1, hk.2.2.2.2.2.2.2.2⟩⟩⟩⟩⟩⟩⟩, hk.2.2.2.1⟩)) hg hat)
   have n8_ := ba_.mk (gg_ Xb HL.out hb)
   have n9_ := ba_.mk (ra_.trans Q0 (ra_.ki_ hg g) (Kd.ft_ HO_211002.out))
   have n10_ := ba_.mk (ho)
   clear BK207
   clear BK210
   clear HI0
   clear BK219
   clear BK224
   clear HO227
   clear HO230
   clear HO233
   clear HB
   clear HK
   clear HO_211002
   have BK207 := n0_
   have BK210 := n1_
   have HI0 := n2_
   have BK219 := n3_
   have BK224 := n4_
   have HO227 := n5_
   have HO230 := n6_
   have HO233 := n7_
   have HB := n8_
   have HK := n9_
   have HO236 := n10_
   clear n0_ n1_ n2_ n3_ n4_ n5_ n6_ n7_ n8_ n9_ n10_
   clear ho hb hg hat
   obtain ⟨Ao48, co48, eo48⟩ := Kd.og_ HO230.out
   (first | subst eo48 | (injection eo48 with f1_ f2_ f3_; have f4_ := f1_.symm; have f5_ := f3_.symm; clear f1_ f2_ f3_; subst f4_; subst f5_))
   obtain ⟨Ao50, co50, eo50⟩ := Kd.og_ HO236.out
   (first | subst eo50 | (injection eo50 with f1_ f2_ f3_; have f4_ := f1_.symm; have f5_ := f3_.symm; clear f1_ f2_ f3_; subst f4_; subst f5_))
   refine hK.out _ _ ⟨(la_ BK210.out 0).trans rfl, (la_ BK210.out 1).trans rfl, (la_ BK210.out 2).trans rfl, (la_ BK210.out 3).trans rfl, (la_ BK219.out 0).trans rfl, (la_ BK219.out 1).trans rfl, (la_ BK219.out 2).trans rfl, (la_ BK224.out 0).trans rfl⟩ (fun hHeld => ?_)
   clear hK K
   refine ug_ (a' := ?_) ?_ ?_
   rotate_left
   ·show Act.put _ (some 39) _ = _
    simp only [Act.put, List.setIfInBounds_toArray, List.set_cons_zero, List.set_cons_succ, yb_, ac_]
    rfl
   refine an_ (i := 11) (N := none) Qay rfl rfl Qz Qc (fun K hK => ?_)
   have hs49 : w46.cell? ⟨gb210, 1, none⟩ = some (.slice Ao35 x211001_1.length co35) := (la_ BK210.out 1).trans rfl
   have hfs49 := ja_ BK210.out 1
   have hns49_0 := NB207_210.out
   have hns49_2 := NB219_210.out
   have hns49_3 := NB224_210.out
   have hms49_0 := NB210_207.out
   have hms49_2 := NB210_219.out
   have hms49_3 := NB210_224.out
   refine em_ (w1 := ?_) (by rfl) rfl ?_ ?_
   rotate_left
   ·go_simp
    rfl
   refine hK.out _ _ ?_
   clear hK K
   refine qc_ (i := 12) (N := some 41) (v := ?_) (a' := ?_) Qaz rfl rfl Qn Qe (Or.inl ⟨by rfl, ?_⟩) ?_ ?_
   rotate_left
   ·exact Qg
   rotate_left
   ·exact Qd
   refine an_ (i := 13) (N := none) Qa0 rfl rfl Qz Qc (fun K hK => ?_)
   have hs51 : w46.cell? ⟨gb210, 2, none⟩ = some (.slice Ao36 x211002_1.length co36) := (la_ BK210.out 2).trans rfl
   have hfs51 := ja_ BK210.out 2
   have hns51_0 := NB207_210.out
   have hns51_2 := NB219_210.out
   have hns51_3 := NB224_210.out
   have hms51_0 := NB210_207.out
   have hms51_2 := NB210_219.out
   have hms51_3 := NB210_224.out
   refine em_ (w1 := ?_) (by rfl) rfl ?_ ?_
   rotate_left
   ·go_simp
    rfl
   refine hK.out _ _ ?_
   clear hK K
   refine yk_ Xt ?_
   try go_wp2
   go_roundg k1
   case measure => have := HK1.out; omega
   case rel => exact ⟨(wrap64 (x6_1 + 1)), (t218), (y228), (y234), (.slice Ao48 y228.length co48), (.slice Ao50 y234.length co50), Ql, H', ⟨Xf⟩, ⟨by (with_reducible repeat (first | apply Kd.cc_ | apply Kd.dc_ | apply Kd.oc_)); exact Kd.yc_ (Kd.lh_ (p := ⟨gb210, 2, none⟩) (Kd.lh_ (p := ⟨gb210, 1, none⟩) (Kd.yc_ HO230.out (fun k_ hk => (⟨hk, hk.1.2.2.2.2.1⟩ : _ ∧ k_ ≠ gb210))) (fun _ hk => hk.2) (.slice Ao48 y228.length co48)) (fun _ hk => hk.2) (.slice Ao50 y234.length co50)) (fun _ hk => ⟨hk.1.1.1, ⟨hk.1.2, ⟨hk.1.1.2.2.2.1, ⟨hk.1.1.2.2.2.2.1, hk.1.1.2.2.1⟩⟩⟩⟩)⟩, ⟨by (with_reducible repeat (first | apply Kd.cc_ | apply Kd.dc_ | apply Kd.oc_)); exact Kd.yc_ (Kd.lh_ (p := ⟨gb210, 2, none⟩) (Kd.lh_ (p := ⟨gb210, 1, none⟩) (Kd.yc_ HO236.out (fun k_ hk => (⟨hk, hk.2.2.2.2.1⟩ : _ ∧ k_ ≠ gb210))) (fun _ hk => hk.2) (.slice Ao48 y228.length co48)) (fun _ hk => hk.2) (.slice Ao50 y234.length co50)) (fun _ hk => ⟨hk.1.1, ⟨hk.1.2.2.1, ⟨hk.1.2.2.2.1, ⟨hk.1.2.2.2.2.1, hk.1.2.2.2.2.2.2.2⟩⟩⟩⟩)⟩, ⟨by (with_reducible repeat (first | refine ia_ ?_ _ | refine ma_ ?_ | refine ha_ ?_ _)); refine ie_ ?_ NB207_210.out _; (with_reducible repeat (first | refine ia_ ?_ _ | refine ma_ ?_ | refine ha_ ?_ _)); refine ie_ ?_ NB207_210.out _; (with_reducible repeat (first | refine ia_ ?_ _ | refine ma_ ?_ | refine ha_ ?_ _)); exact BK207.out⟩, ⟨by (with_reducible repeat (first | refine ia_ ?_ _ | refine ma_ ?_ | refine ha_ ?_ _)); refine sc_ (cs := #[.int .i64 t208, .slice Ao48 y228.length co48, .slice Ao36 x211002_1.length co36, .slice none 0 0]) ?_ 2 _ rfl; (with_reducible repeat (first | refine ia_ ?_ _ | refine ma_ ?_ | refine ha_ ?_ _)); refine sc_ (cs := #[.int .i64 t208, .slice Ao35 x211001_1.length co35, .slice Ao36 x211002_1.length co36, .slice none 0 0]) ?_ 1 _ rfl; (with_reducible repeat (first | refine ia_ ?_ _ | refine ma_ ?_ | refine ha_ ?_ _)); exact BK210.out⟩, ⟨Q4⟩, ⟨Q0⟩, ⟨Xb⟩⟩
def mc_.l0 : Nat → List Int → List Int → Int → Int → Int → Option (Int)
 | 0, _, _, _, _, _ => none
 | k + 1, x0, x1, x5, x13, x14 => if x14 < x13 then (if 0 ≤ x14 then (if x14 < (x0.length : Int) then (if x14 < (x1.length : Int) then (if (rd x0 x14) = (rd x1 x14) then (mc_.l0 k x0 x1 x5 x13 (wrap64 (x14 + 1))) else (mc_.l0 k x0 x1 (wrap64 (x5 + 1)) x13 (wrap64 (x14 + 1)))) else (none)) else (none)) else (none)) else (some x5)
def mc_.f (k : Nat) (l0 : List Int) (l1 : List Int) : Option (Int) := if (l0.length : Int) = (l1.length : Int) then (mc_.l0 k l0 l1 0 (l0.length : Int) 0) else (some (-1))
theorem mc_.nd_ : ∀ k, (∀ y0 y1 y2 y3 y4, LeO (mc_.l0 k y0 y1 y2 y3 y4) (mc_.l0 (k + 1) y0 y1 y2 y3 y4))
 | 0 => fun _ _ _ _ _ r h => by simp [mc_.l0] at h
 | k + 1 => by
  have ih0 := mc_.nd_ k
  intro y0 y1 y2 y3 y4
  unfold mc_.l0
  exact Qr
theorem mc_.mono : ∀ a0 a1 k, LeO (mc_.f k a0 a1) (mc_.f (k + 1) a0 a1) := by
 intro a0 a1 k
 have ih0 := mc_.nd_ k
 unfold mc_.f
 exact Qr
set_option maxHeartbeats 8000000 in
set_option maxRecDepth 100000 in
theorem mc_.calls (k : Nat) (A0 : Option Addr) (c0 : Nat) (l0 : List Int) (A1 : Option Addr) (c1 : Nat) (l1 : List Int) (r : Int) (w : World) (hr0 : Kd.C (Kd.int .i64) w A0 l0.length l0) (hc0 : l0.length ≤ c0) (hr1 : Kd.C (Kd.int .i64) w A1 l1.length l1) (hc1 : l1.length ≤ c1) (h : mc_.f k l0 l1 = some r) :
  Calls Tryz.prog 14 #[.slice A0 l0.length c0, .slice A1 l1.length c1] w fun e w' => e = .returned (.int .i64 r) ∧ vb_ w w' := by
 have HR0 := ba_.mk hr0
 have HC0 := ba_.mk hc0
 clear hr0 hc0
 have HR1 := ba_.mk hr1
 have HC1 := ba_.mk hc1
 clear hr1 hc1
 have H : (if (l0.length : Int) = (l1.length : Int) then (mc_.l0 k l0 l1 0 (l0.length : Int) 0) else (some (-1))) = some r := h
 clear h
 by_cases c3 : (l0.length : Int) = (l1.length : Int)
 rotate_left
 ·rw [if_neg c3] at H
  have c3b0 : ((l0.length : Int) == (l1.length : Int)) = false := beq_eq_false_iff_ne.mpr c3
  have c3b1 : ((l0.length : Int) != (l1.length : Int)) = true := bne_iff_ne.mpr c3
  have c3b2 : (l0.length == l1.length) = false := by first | simpa using c3 | (simp at c3 ⊢; omega)
  obtain rfl := Option.some.inj H
  go_enter Tryz.func14, Tryz.ntmps14
  go_wp2
  repeat (go_quiet (fail); try go_wp2)
  go_ret
  exact ⟨Ql, Qx⟩
 rw [if_pos c3] at H
 have c3b0 : ((l0.length : Int) == (l1.length : Int)) = true := beq_iff_eq.mpr c3
 have c3b1 : ((l0.length : Int) != (l1.length : Int)) = false := bne_eq_false_iff_eq.mpr c3
 have c3b2 : (l0.length == l1.length) = true := by first | simpa using c3 | (simp at c3 ⊢; omega)
 clear c3
 have H' := ba_.mk H
 clear H
 go_enter Tryz.func14, Tryz.ntmps14
 go_wp2
 repeat (go_quiet (fail); try go_wp2)
 go_loopg [5, 14] k (fun kq v5 v14 w' => ∃ (x5_1 : Int) (x14_1 : Int), v5 = .int .i64 x5_1 ∧ v14 = .int .i64 x14_1 ∧ ba_ (mc_.l0 kq l0 l1 x5_1 (l0.length : Int) x14_1 = some r) ∧ ba_ (kq ≤ k) ∧ vb_ w w')
 case atStart => exact ⟨(0), (0), Ql, Ql, H', ⟨Nat.le_refl _⟩, Qx⟩
 case round =>
  clear H'
  try clear c1
  try clear p2
  try clear c3
  try clear c3b0
  try clear c3b1
  try clear c3b2
  obtain ⟨x5_1, x14_1, rfl, rfl, HA, HK1, ⟨m1, rfl⟩⟩ := hrel
  cases gk with
  | zero => exact absurd HA.out (by simp [mc_.l0])
  | succ k1 =>
   have H := HA.out
   clear HA
   simp only [mc_.l0] at H
   by_cases c4 : x14_1 < (l0.length : Int)
   rotate_left
   ·rw [if_neg c4] at H
    have c4b0 := decide_eq_false c4
    clear c4
    obtain rfl := Option.some.inj H
    go_wp2
    repeat (go_quiet (fail); try go_wp2)
    go_ret
    exact ⟨Ql, Qx⟩
   rw [if_pos c4] at H
   have c4b0 := decide_eq_true c4
   clear c4
   obtain ⟨c5, H⟩ := Qq H
   have c5b0 := decide_eq_true c5
   clear c5
   obtain ⟨c6, H⟩ := Qq H
   have c6b0 := decide_eq_true c6
   clear c6
   obtain ⟨c7, H⟩ := Qq H
   have c7b0 := decide_eq_true c7
   clear c7
   by_cases c8 : (rd l0 x14_1) = (rd l1 x14_1)
   rotate_left
   ·rw [if_neg c8] at H
    have c8b0 : ((rd l0 x14_1) == (rd l1 x14_1)) = false := beq_eq_false_iff_ne.mpr c8
    have c8b1 : ((rd l0 x14_1) != (rd l1 x14_1)) = true := bne_iff_ne.mpr c8
    have H' := ba_.mk H
    clear H
    have p285 : 0 ≤ (x14_1 : Int) := of_decide_eq_true Qi
    have q285 : x14_1 < (l0.length : Int) := of_decide_eq_true Qi
    obtain ⟨ad285, e285, hx285_0⟩ := Kd.ee_ HR0.out x14_1 p285 q285
    cases e285
    replace p285 := eq_true p285
    replace q285 := eq_true q285
    have p286 : 0 ≤ (x14_1 : Int) := of_decide_eq_true Qi
    have q286 : x14_1 < (l1.length : Int) := of_decide_eq_true Qi
    obtain ⟨ad286, e286, hx286_0⟩ := Kd.ee_ HR1.out x14_1 p286 q286
    cases e286
    replace p286 := eq_true p286
    replace q286 := eq_true q286
    go_wp2
    repeat (go_quiet (fail); try go_wp2)
    go_roundg k1
    case measure => have := HK1.out; omega
    case rel => exact ⟨(wrap64 (x5_1 + 1)), (wrap64 (x14_1 + 1)), Ql, Ql, H', ⟨Xf⟩, Qx⟩
   rw [if_pos c8] at H
   have c8b0 : ((rd l0 x14_1) == (rd l1 x14_1)) = true := beq_iff_eq.mpr c8
   have c8b1 : ((rd l0 x14_1) != (rd l1 x14_1)) = false := bne_eq_false_iff_eq.mpr c8
   clear c8
   have H' := ba_.mk H
   clear H
   have p285 : 0 ≤ (x14_1 : Int) := of_decide_eq_true Qi
   have q285 : x14_1 < (l0.length : Int) := of_decide_eq_true Qi
   obtain ⟨ad285, e285, hx285_0⟩ := Kd.ee_ HR0.out x14_1 p285 q285
   cases e285
   replace p285 := eq_true p285
   replace q285 := eq_true q285
   have p286 : 0 ≤ (x14_1 : Int) := of_decide_eq_true Qi
   have q286 : x14_1 < (l1.length : Int) := of_decide_eq_true Qi
   obtain ⟨ad286, e286, hx286_0⟩ := Kd.ee_ HR1.out x14_1 p286 q286
   cases e286
   replace p286 := eq_true p286
   replace q286 := eq_true q286
   go_wp2
   repeat (go_quiet (fail); try go_wp2)
   go_roundg k1
   case measure => have := HK1.out; omega
   case rel => exact ⟨(x5_1), (wrap64 (x14_1 + 1)), Ql, Ql, H', ⟨Xf⟩, Qx⟩
def of_.f (a0 : ByteArray) : Option (ByteArray × Int) := (sk_.f a0).bind fun t287 => (if t287 = true then ((wj_.f a0).bind fun t288 => ((nf_.f a0).bind fun t289 => (if t289 = true then (some (a0, 0)) else ((nf_.f t288).bind fun t290 => (if t290 = true then (some (t288, 0)) else (some ((⟨#[]⟩ : ByteArray), 26))))))) else (some ((⟨#[]⟩ : ByteArray), 7)))
set_option maxHeartbeats 8000000 in
set_option maxRecDepth 100000 in
theorem of_.calls (a0 : ByteArray) (r1 : ByteArray) (r2 : Int) (w : World) (h : of_.f a0 = some (r1, r2)) :
  Calls Tryz.prog 25 #[.string a0] w fun e w' => e = .returned (.tuple #[.string r1, .int .i64 r2]) ∧ Below w.heap.size w w' := by
 have HB := ba_.mk (Below.refl w.heap.size w)
 have H : ((sk_.f a0).bind fun t287 => (if t287 = true then ((wj_.f a0).bind fun t288 => ((nf_.f a0).bind fun t289 => (if t289 = true then (some (a0, 0)) else ((nf_.f t288).bind fun t290 => (if t290 = true then (some (t288, 0)) else (some ((⟨#[]⟩ : ByteArray), 26))))))) else (some ((⟨#[]⟩ : ByteArray), 7)))) = some (r1, r2) := h
 clear h
 obtain ⟨t287, A2, H⟩ := Qo H
 try dsimp only at H
 by_cases c3 : t287 = true
 rotate_left
 ·replace c3 := Bool.eq_false_iff.mpr c3
  subst c3
  have H1 : (some ((⟨#[]⟩ : ByteArray), 7)) = some (r1, r2) := by rw [if_neg (show ¬ (false = true) by decide)] at H; exact H
  clear H
  have H := H1
  clear H1
  simp only [Option.some.injEq, Prod.mk.injEq] at H
  obtain ⟨rfl, rfl⟩ := H
  go_enter Tryz.func25, Tryz.ntmps25
  go_wp2_with (first | ((with_reducible refine va_ (f := 42) rfl ?_); refine lc_ (some 6) rfl rfl Tryz.func42 Qb rfl #[.string a0] rfl Qm ?_; (with_reducible refine (sk_.calls a0 false _ A2.out).mono ?_); rintro e w20 ⟨rfl, hb⟩; refine ⟨_, rfl, ?_⟩; have n0_ := ba_.mk (hb_ Qh hb); clear HB; have HB := n0_; clear n0_; (try clear hb); (try clear hb2); (try clear hk); (try clear hi)))
  go_ret2
  exact ⟨Qu, Qh⟩
 subst c3
 have H1 : ((wj_.f a0).bind fun t288 => ((nf_.f a0).bind fun t289 => (if t289 = true then (some (a0, 0)) else ((nf_.f t288).bind fun t290 => (if t290 = true then (some (t288, 0)) else (some ((⟨#[]⟩ : ByteArray), 26))))))) = some (r1, r2) := by rw [if_pos rfl] at H; exact H
 clear H
 have H := H1
 clear H1
 obtain ⟨t288, A4, H⟩ := Qo H
 try dsimp only at H
 obtain ⟨t289, A5, H⟩ := Qo H
 try dsimp only at H
 by_cases c6 : t289 = true
 ·subst c6
  have H1 : (some (a0, 0)) = some (r1, r2) := by rw [if_pos rfl] at H; exact H
  clear H
  have H := H1
  clear H1
  simp only [Option.some.injEq, Prod.mk.injEq] at H
  obtain ⟨rfl, rfl⟩ := H
  go_enter Tryz.func25, Tryz.ntmps25
  go_wp2_with (first | ((with_reducible refine va_ (f := 42) rfl ?_); refine lc_ (some 6) rfl rfl Tryz.func42 Qb rfl #[.string a0] rfl Qm ?_; (with_reducible refine (sk_.calls a0 true _ A2.out).mono ?_); rintro e w7 ⟨rfl, hb⟩; refine ⟨_, rfl, ?_⟩; have n0_ := ba_.mk (hb_ Qh hb); clear HB; have HB := n0_; clear n0_; (try clear hb); (try clear hb2); (try clear hk); (try clear hi)) | ((with_reducible refine va_ (f := 20) rfl ?_); refine lc_ (some 9) rfl rfl Tryz.func20 Qb rfl #[.string a0] rfl Qm ?_; (with_reducible refine (wj_.calls a0 t288 _ A4.out).mono ?_); rintro e w8 ⟨rfl, hb⟩; refine ⟨_, rfl, ?_⟩; have n0_ := ba_.mk (hb_ Qh hb); clear HB; have HB := n0_; clear n0_; (try clear hb); (try clear hb2); (try clear hk); (try clear hi)) | ((with_reducible refine va_ (f := 56) rfl ?_); refine lc_ (some 12) rfl rfl Tryz.func56 Qb rfl #[.string a0] rfl Qm ?_; (with_reducible refine (nf_.calls a0 true _ A5.out).mono ?_); rintro e w9 ⟨rfl, hb⟩; refine ⟨_, rfl, ?_⟩; have n0_ := ba_.mk (hb_ Qh hb); clear HB; have HB := n0_; clear n0_; (try clear hb); (try clear hb2); (try clear hk); (try clear hi)))
  go_ret2
  exact ⟨Qu, Qh⟩
 replace c6 := Bool.eq_false_iff.mpr c6
 subst c6
 have H1 : ((nf_.f t288).bind fun t290 => (if t290 = true then (some (t288, 0)) else (some ((⟨#[]⟩ : ByteArray), 26)))) = some (r1, r2) := by rw [if_neg (show ¬ (false = true) by decide)] at H; exact H
 clear H
 have H := H1
 clear H1
 obtain ⟨t290, A10, H⟩ := Qo H
 try dsimp only at H
 by_cases c11 : t290 = true
 ·subst c11
  have H1 : (some (t288, 0)) = some (r1, r2) := by rw [if_pos rfl] at H; exact H
  clear H
  have H := H1
  clear H1
  simp only [Option.some.injEq, Prod.mk.injEq] at H
  obtain ⟨rfl, rfl⟩ := H
  go_enter Tryz.func25, Tryz.ntmps25
  go_wp2_with (first | ((with_reducible refine va_ (f := 42) rfl ?_); refine lc_ (some 6) rfl rfl Tryz.func42 Qb rfl #[.string a0] rfl Qm ?_; (with_reducible refine (sk_.calls a0 true _ A2.out).mono ?_); rintro e w12 ⟨rfl, hb⟩; refine ⟨_, rfl, ?_⟩; have n0_ := ba_.mk (hb_ Qh hb); clear HB; have HB := n0_; clear n0_; (try clear hb); (try clear hb2); (try clear hk); (try clear hi)) | ((with_reducible refine va_ (f := 20) rfl ?_); refine lc_ (some 9) rfl rfl Tryz.func20 Qb rfl #[.string a0] rfl Qm ?_; (with_reducible refine (wj_.calls a0 t288 _ A4.out).mono ?_); rintro e w13 ⟨rfl, hb⟩; refine ⟨_, rfl, ?_⟩; have n0_ := ba_.mk (hb_ Qh hb); clear HB; have HB := n0_; clear n0_; (try clear hb); (try clear hb2); (try clear hk); (try clear hi)) | ((with_reducible refine va_ (f := 56) rfl ?_); refine lc_ (some 12) rfl rfl Tryz.func56 Qb rfl #[.string a0] rfl Qm ?_; (with_reducible refine (nf_.calls a0 false _ A5.out).mono ?_); rintro e w14 ⟨rfl, hb⟩; refine ⟨_, rfl, ?_⟩; have n0_ := ba_.mk (hb_ Qh hb); clear HB; have HB := n0_; clear n0_; (try clear hb); (try clear hb2); (try clear hk); (try clear hi)) | ((with_reducible refine va_ (f := 56) rfl ?_); refine lc_ (some 16) rfl rfl Tryz.func56 Qb rfl #[.string t288] rfl Qm ?_; (with_reducible refine (nf_.calls t288 true _ A10.out).mono ?_); rintro e w15 ⟨rfl, hb⟩; refine ⟨_, rfl, ?_⟩; have n0_ := ba_.mk (hb_ Qh hb); clear HB; have HB := n0_; clear n0_; (try clear hb); (try clear hb2); (try clear hk); (try clear hi)))
  go_ret2
  exact ⟨Qu, Qh⟩
 replace c11 := Bool.eq_false_iff.mpr c11
 subst c11
 have H1 : (some ((⟨#[]⟩ : ByteArray), 26)) = some (r1, r2) := by rw [if_neg (show ¬ (false = true) by decide)] at H; exact H
 clear H
 have H := H1
 clear H1
 simp only [Option.some.injEq, Prod.mk.injEq] at H
 obtain ⟨rfl, rfl⟩ := H
 go_enter Tryz.func25, Tryz.ntmps25
 go_wp2_with (first | ((with_reducible refine va_ (f := 42) rfl ?_); refine lc_ (some 6) rfl rfl Tryz.func42 Qb rfl #[.string a0] rfl Qm ?_; (with_reducible refine (sk_.calls a0 true _ A2.out).mono ?_); rintro e w16 ⟨rfl, hb⟩; refine ⟨_, rfl, ?_⟩; have n0_ := ba_.mk (hb_ Qh hb); clear HB; have HB := n0_; clear n0_; (try clear hb); (try clear hb2); (try clear hk); (try clear hi)) | ((with_reducible refine va_ (f := 20) rfl ?_); refine lc_ (some 9) rfl rfl Tryz.func20 Qb rfl #[.string a0] rfl Qm ?_; (with_reducible refine (wj_.calls a0 t288 _ A4.out).mono ?_); rintro e w17 ⟨rfl, hb⟩; refine ⟨_, rfl, ?_⟩; have n0_ := ba_.mk (hb_ Qh hb); clear HB; have HB := n0_; clear n0_; (try clear hb); (try clear hb2); (try clear hk); (try clear hi)) | ((with_reducible refine va_ (f := 56) rfl ?_); refine lc_ (some 12) rfl rfl Tryz.func56 Qb rfl #[.string a0] rfl Qm ?_; (with_reducible refine (nf_.calls a0 false _ A5.out).mono ?_); rintro e w18 ⟨rfl, hb⟩; refine ⟨_, rfl, ?_⟩; have n0_ := ba_.mk (hb_ Qh hb); clear HB; have HB := n0_; clear n0_; (try clear hb); (try clear hb2); (try clear hk); (try clear hi)) | ((with_reducible refine va_ (f := 56) rfl ?_); refine lc_ (some 16) rfl rfl Tryz.func56 Qb rfl #[.string t288] rfl Qm ?_; (with_reducible refine (nf_.calls t288 false _ A10.out).mono ?_); rintro e w19 ⟨rfl, hb⟩; refine ⟨_, rfl, ?_⟩; have n0_ := ba_.mk (hb_ Qh hb); clear HB; have HB := n0_; clear n0_; (try clear hb); (try clear hb2); (try clear hk); (try clear hi)))
 go_ret2
 exact ⟨Qu, Qh⟩
def ge_.f (a0 : ByteArray) : Option (Int × Int × Int × Int × Int × Int) := (of_.f a0).bind fun bt292 => (if bt292.2 = 0 then ((mi_.f bt292.1).bind fun bt294 => ((qq_.f bt294.1).bind fun bt298 => (if bt298.2.2 = 0 then (if 0 < (bt298.1.length : Int) then (if 1 < (bt298.1.length : Int) then (if 2 < (bt298.1.length : Int) then (if 3 < (bt298.1.length : Int) then (if 4 < (bt298.1.length : Int) then (if 5 < (bt298.1.length : Int) then ((rk_.f (rd bt298.1 0) (wrap64 ((wrap64 ((wrap64 ((rd bt298.1 1) * 1024)) + (wrap64 ((rd bt298.1 2) * 32)))) + (rd bt298.1 3))) (rd bt298.1 4) (rd bt298.1 5)).bind fun t309 => (if t309 = true then (some (rd bt298.1 0, wrap64 ((wrap64 ((wrap64 ((rd bt298.1 1) * 1024)) + (wrap64 ((rd bt298.1 2) * 32)))) + (rd bt298.1 3)), rd bt298.1 4, rd bt298.1 5, bt298.2.1, 0)) else (some (0, 0, 0, 0, 0, 2)))) else (none)) else (none)) else (none)) else (none)) else (none)) else (none)) else (some (0, 0, 0, 0, 0, bt298.2.2))))) else (some (0, 0, 0, 0, 0, bt292.2)))
def ge_.T8 : Bool × List (List Nat × List Nat) := (true, [([], []), ([0], [0]), ([1], [1]), ([], []), ([3], [3]), ([4], [4]), ([5], [5]), ([], []), ([7], [7]), ([8], [8]), ([9], [9]), ([6, 10], [6, 10]), ([], []), ([12], [12]), ([13], [13]), ([11, 14], [11, 14]), ([], []), ([16], [16]), ([17], [17]), ([], []), ([19], [19]), ([20], [20]), ([2, 15, 18, 21], [2, 15, 18, 21]), ([22, 0, 1, 2, 3, 4, 5, 6, 7, 8, 9, 10, 11, 12, 13, 14, 15, 16, 17, 18, 19, 20, 21, 22], [22])])
def ge_.B8 : List Nat := [0, 1, 3, 0, 8, 24, 56, 0, 128, 384, 896, 2040, 0, 4096, 12288, 32760, 0, 65536, 196608, 0, 524288, 1572864, 4194303, 8388607]
theorem ge_.tab8 : rtab .any (opsOf Tryz.f15 8) = ge_.T8 := by kernel_rfl
theorem ge_.ye1_ : ni_ ge_.T8.2 ge_.B8 = true := by kernel_rfl
set_option maxHeartbeats 8000000 in
set_option maxRecDepth 100000 in
theorem ge_.calls (a0 : ByteArray) (r1 : Int) (r2 : Int) (r3 : Int) (r4 : Int) (r5 : Int) (r6 : Int) (w : World) (h : ge_.f a0 = some (r1, r2, r3, r4, r5, r6)) :
  Calls Tryz.prog 15 #[.string a0] w fun e w' => e = .returned (.tuple #[.agg #[.int .i64 r1, .int .i64 r2, .int .i64 r3, .int .i64 r4], .int .i64 r5, .int .i64 r6]) ∧ Below w.heap.size w w' := by
 have hu38 := Tryz.underlying38
 have HB := ba_.mk (Below.refl w.heap.size w)
 have H : ((of_.f a0).bind fun bt292 => (if bt292.2 = 0 then ((mi_.f bt292.1).bind fun bt294 => ((qq_.f bt294.1).bind fun bt298 => (if bt298.2.2 = 0 then (if 0 < (bt298.1.length : Int) then (if 1 < (bt298.1.length : Int) then (if 2 < (bt298.1.length : Int) then (if 3 < (bt298.1.length : Int) then (if 4 < (bt298.1.length : Int) then (if 5 < (bt298.1.length : Int) then ((rk_.f (rd bt298.1 0) (wrap64 ((wrap64 ((wrap64 ((rd bt298.1 1) * 1024)) + (wrap64 ((rd bt298.1 2) * 32)))) + (rd bt298.1 3))) (rd bt298.1 4) (rd bt298.1 5)).bind fun t309 => (if t309 = true then (some (rd bt298.1 0, wrap64 ((wrap64 ((wrap64 ((rd bt298.1 1) * 1024)) + (wrap64 ((rd bt298.1 2) * 32)))) + (rd bt298.1 3)), rd bt298.1 4, rd bt298.1 5, bt298.2.1, 0)) else (some (0, 0, 0, 0, 0, 2)))) else (none)) else (none)) else (none)) else (none)) else (none)) else (none)) else (some (0, 0, 0, 0, 0, bt298.2.2))))) else (some (0, 0, 0, 0, 0, bt292.2)))) = some (r1, r2, r3, r4, r5, r6) := h
 clear h
 obtain ⟨⟨t292, t293⟩, A2, H⟩ := Qo H
 try dsimp only at H
 by_cases c3 : t293 = 0
 rotate_left
 ·rw [if_neg c3] at H
  have c3b0 : (t293 == 0) = false := beq_eq_false_iff_ne.mpr c3
  have c3b1 : (t293 != 0) = true := bne_iff_ne.mpr c3
  simp only [Option.some.injEq, Prod.mk.injEq] at H
  obtain ⟨rfl, rfl, rfl, rfl, rfl, rfl⟩ := H
  go_enter Tryz.func15, Tryz.ntmps15
  go_wp2_with (first | ((with_reducible refine ld_ (N := 2) rfl ?_); refine de_ ?hg (N := 2) ?hd (cs := #[.int .i64 0, .int .i64 0, .int .i64 0, .int .i64 0]) (t := 38) ?hr ?_; (case hd => rfl); (case hg => rfl); (case hr => exact Qt); intro gb291 hg w49 hbox hb; have n0_ := ba_.mk (hb_ Qh hb); have n1_ := ba_.mk (hbox); have n2_ := ba_.mk ((by rw [hg]; exact (pb_ Qh) : w.heap.size ≤ gb291)); have n3_ := ba_.mk ((by rw [hg]; exact (pb_ Qh) : w.heap.size ≤ gb291)); clear HB; have HB := n0_; have BK291 := n1_; have GW291 := n2_; have GE291 := n3_; clear n0_ n1_ n2_ n3_; clear hb hbox hg) | ((with_reducible refine va_ (f := 25) rfl ?_); refine lc_ (some 10) rfl rfl Tryz.func25 Qb rfl #[.string a0] rfl Qm ?_; (with_reducible refine (of_.calls a0 t292 t293 _ A2.out).mono ?_); rintro e w50 ⟨rfl, hb⟩; refine ⟨_, rfl, ?_⟩; have n0_ := ba_.mk (pc_ (g := gb291) (o := .cells #[.int .i64 0, .int .i64 0, .int .i64 0, .int .i64 0] 38 (0, 0)) (Qf BK291.out) hb); have n1_ := ba_.mk (hb_ Q5 hb); clear BK291; clear HB; have BK291 := n0_; have HB := n1_; clear n0_ n1_; (try clear hb); (try clear hb2); (try clear hk); (try clear hi); have hcz51_0 : w50.cell? ⟨gb291, 0, none⟩ = some (.int .i64 0) := (la_ BK291.out 0).trans rfl; have hcz51_1 : w50.cell? ⟨gb291, 1, none⟩ = some (.int .i64 0) := (la_ BK291.out 1).trans rfl; have hcz51_2 : w50.cell? ⟨gb291, 2, none⟩ = some (.int .i64 0) := (la_ BK291.out 2).trans rfl; have hcz51_3 : w50.cell? ⟨gb291, 3, none⟩ = some (.int .i64 0) := (la_ BK291.out 3).trans rfl; have hfz51_0 := ja_ BK291.out 0; have hfz51_1 := ja_ BK291.out 1; have hfz51_2 := ja_ BK291.out 2; have hfz51_3 := ja_ BK291.out 3))
  refine bodyPost_ret (ol_ rfl _ _ gb291 38 #[.int .i64 0, .int .i64 0, .int .i64 0, .int .i64 0] (0, 0) _ rfl (by (with_reducible repeat (first | refine ia_ ?_ _ | refine ma_ ?_ | refine ha_ ?_ _)); refine sc_ (cs := #[.int .i64 0, .int .i64 0, .int .i64 0, .int .i64 0]) ?_ 3 _ rfl; (with_reducible repeat (first | refine ia_ ?_ _ | refine ma_ ?_ | refine ha_ ?_ _)); refine sc_ (cs := #[.int .i64 0, .int .i64 0, .int .i64 0, .int .i64 0]) ?_ 2 _ rfl; (with_reducible repeat (first | refine ia_ ?_ _ | refine ma_ ?_ | refine ha_ ?_ _)); refine sc_ (cs := #[.int .i64 0, .int .i64 0, .int .i64 0, .int .i64 0]) ?_ 1 _ rfl; (with_reducible repeat (first | refine ia_ ?_ _ | refine ma_ ?_ | refine ha_ ?_ _)); refine sc_ (cs := #[.int .i64 0, .int .i64 0, .int .i64 0, .int .i64 0]) ?_ 0 _ rfl; (with_reducible repeat (first | refine ia_ ?_ _ | refine ma_ ?_ | refine ha_ ?_ _)); exact BK291.out) Tryz.underlying38 rfl Qb) rfl ?_
  exact ⟨Qu, Q5⟩
 rw [if_pos c3] at H
 have c3b0 : (t293 == 0) = true := beq_iff_eq.mpr c3
 have c3b1 : (t293 != 0) = false := bne_eq_false_iff_eq.mpr c3
 clear c3
 obtain ⟨⟨t294, t295⟩, A4, H⟩ := Qo H
 try dsimp only at H
 obtain ⟨⟨t298, t299, t300⟩, A5, H⟩ := Qo H
 try dsimp only at H
 by_cases c6 : t300 = 0
 rotate_left
 ·rw [if_neg c6] at H
  have c6b0 : (t300 == 0) = false := beq_eq_false_iff_ne.mpr c6
  have c6b1 : (t300 != 0) = true := bne_iff_ne.mpr c6
  simp only [Option.some.injEq, Prod.mk.injEq] at H
  obtain ⟨rfl, rfl, rfl, rfl, rfl, rfl⟩ := H
  go_enter Tryz.func15, Tryz.ntmps15
  go_wp2_with (first | ((with_reducible refine ld_ (N := 2) rfl ?_); refine de_ ?hg (N := 2) ?hd (cs := #[.int .i64 0, .int .i64 0, .int .i64 0, .int .i64 0]) (t := 38) ?hr ?_; (case hd => rfl); (case hg => rfl); (case hr => exact Qt); intro gb291 hg w43 hbox hb; have n0_ := ba_.mk (hb_ Qh hb); have n1_ := ba_.mk (hbox); have n2_ := ba_.mk ((by rw [hg]; exact (pb_ Qh) : w.heap.size ≤ gb291)); have n3_ := ba_.mk ((by rw [hg]; exact (pb_ Qh) : w.heap.size ≤ gb291)); clear HB; have HB := n0_; have BK291 := n1_; have GW291 := n2_; have GE291 := n3_; clear n0_ n1_ n2_ n3_; clear hb hbox hg) | ((with_reducible refine va_ (f := 25) rfl ?_); refine lc_ (some 10) rfl rfl Tryz.func25 Qb rfl #[.string a0] rfl Qm ?_; (with_reducible refine (of_.calls a0 t292 t293 _ A2.out).mono ?_); rintro e w44 ⟨rfl, hb⟩; refine ⟨_, rfl, ?_⟩; have n0_ := ba_.mk (pc_ (g := gb291) (o := .cells #[.int .i64 0, .int .i64 0, .int .i64 0, .int .i64 0] 38 (0, 0)) (Qf BK291.out) hb); have n1_ := ba_.mk (hb_ Q5 hb); clear BK291; clear HB; have BK291 := n0_; have HB := n1_; clear n0_ n1_; (try clear hb); (try clear hb2); (try clear hk); (try clear hi)) | ((with_reducible refine va_ (f := 12) rfl ?_); refine lc_ (some 19) rfl rfl Tryz.func12 Qb rfl #[.string t292] rfl Qm ?_; (with_reducible refine (mi_.calls t292 t294 t295 _ A4.out).mono ?_); rintro e w45 ⟨v296, rfl, ho0, hb⟩; refine ⟨_, rfl, ?_⟩; have n0_ := ba_.mk (Kd.xd_ ho0 (pb_ Q5)); have n1_ := ba_.mk (pc_ (g := gb291) (o := .cells #[.int .i64 0, .int .i64 0, .int .i64 0, .int .i64 0] 38 (0, 0)) (Qf BK291.out) hb); have n2_ := ba_.mk (hb_ Q5 hb); clear BK291; clear HB; have HO297 := n0_; have BK291 := n1_; have HB := n2_; clear n0_ n1_ n2_; (try clear hb); (try clear hb2); (try clear hk); (try clear hi); (try clear ho0); obtain ⟨Ao46, co46, eo46⟩ := Kd.td_ HO297.out; subst eo46) | ((with_reducible refine va_ (f := 46) rfl ?_); refine lc_ (some 24) rfl rfl Tryz.func46 Qb rfl #[.slice Ao46 t294.length co46] rfl Qm ?_; (with_reducible refine (qq_.calls _ _ t294 t298 t299 t300 _ ?side1 ?side2 A5.out).mono ?_); (case side1 => repeat (first | exact (Kd.wb_ HO297.out).2.2 | (with_reducible refine Kd.zc_ ?_ _) | (with_reducible refine Kd.ad_ ?_ _) | (with_reducible refine Kd.od_ ?_))); (case side2 => exact (Kd.wb_ HO297.out).2.1); rintro e w47 ⟨v301, rfl, ho0, hb⟩; refine ⟨_, rfl, ?_⟩; have n0_ := ba_.mk (Kd.ue_ (Qk HO297.out) (Kd.cf_ ho0) hb); have n1_ := ba_.mk (Kd.xd_ (Kd.fg_ ho0 (Kd.R_lt (Qk HO297.out))) (pb_ Q5)); have n2_ := ba_.mk (pc_ (g := gb291) (o := .cells #[.int .i64 0, .int .i64 0, .int .i64 0, .int .i64 0] 38 (0, 0)) (Qf BK291.out) hb); have n3_ := ba_.mk (hb_ Q5 hb); clear HO297; clear BK291; clear HB; have HO297 := n0_; have HO302 := n1_; have BK291 := n2_; have HB := n3_; clear n0_ n1_ n2_ n3_; (try clear hb); (try clear hb2); (try clear hk); (try clear hi); (try clear ho0); have hcz48_0 : w47.cell? ⟨gb291, 0, none⟩ = some (.int .i64 0) := (la_ BK291.out 0).trans rfl; have hcz48_1 : w47.cell? ⟨gb291, 1, none⟩ = some (.int .i64 0) := (la_ BK291.out 1).trans rfl; have hcz48_2 : w47.cell? ⟨gb291, 2, none⟩ = some (.int .i64 0) := (la_ BK291.out 2).trans rfl; have hcz48_3 : w47.cell? ⟨gb291, 3, none⟩ = some (.int .i64 0) := (la_ BK291.out 3).trans rfl; have hfz48_0 := ja_ BK291.out 0; have hfz48_1 := ja_ BK291.out 1; have hfz48_2 := ja_ BK291.out 2; have hfz48_3 := ja_ BK291.out 3))
  refine bodyPost_ret (ol_ rfl _ _ gb291 38 #[.int .i64 0, .int .i64 0, .int .i64 0, .int .i64 0] (0, 0) _ rfl (by (with_reducible repeat (first | refine ia_ ?_ _ | refine ma_ ?_ | refine ha_ ?_ _)); refine sc_ (cs := #[.int .i64 0, .int .i64 0, .int .i64 0, .int .i64 0]) ?_ 3 _ rfl; (with_reducible repeat (first | refine ia_ ?_ _ | refine ma_ ?_ | refine ha_ ?_ _)); refine sc_ (cs := #[.int .i64 0, .int .i64 0, .int .i64 0, .int .i64 0]) ?_ 2 _ rfl; (with_reducible repeat (first | refine ia_ ?_ _ | refine ma_ ?_ | refine ha_ ?_ _)); refine sc_ (cs := #[.int .i64 0, .int .i64 0, .int .i64 0, .int .i64 0]) ?_ 1 _ rfl; (with_reducible repeat (first | refine ia_ ?_ _ | refine ma_ ?_ | refine ha_ ?_ _)); refine sc_ (cs := #[.int .i64 0, .int .i64 0, .int .i64 0, .int .i64 0]) ?_ 0 _ rfl; (with_reducible repeat (first | refine ia_ ?_ _ | refine ma_ ?_ | refine ha_ ?_ _)); exact BK291.out) Tryz.underlying38 rfl Qb) rfl ?_
  exact ⟨Qu, Q5⟩
 rw [if_pos c6] at H
 have c6b0 : (t300 == 0) = true := beq_iff_eq.mpr c6
 have c6b1 : (t300 != 0) = false := bne_eq_false_iff_eq.mpr c6
 clear c6
 obtain ⟨c7, H⟩ := Qq H
 have c7b0 := decide_eq_true c7
 have c7b1 : decide (0 < t298.length) = true := decide_eq_true Qa
 clear c7
 obtain ⟨c8, H⟩ := Qq H
 have c8b0 := decide_eq_true c8
 have c8b1 : decide (1 < t298.length) = true := decide_eq_true Qa
 clear c8
 obtain ⟨c9, H⟩ := Qq H
 have c9b0 := decide_eq_true c9
 have c9b1 : decide (2 < t298.length) = true := decide_eq_true Qa
 clear c9
 obtain ⟨c10, H⟩ := Qq H
 have c10b0 := decide_eq_true c10
 have c10b1 : decide (3 < t298.length) = true := decide_eq_true Qa
 clear c10
 obtain ⟨c11, H⟩ := Qq H
 have c11b0 := decide_eq_true c11
 have c11b1 : decide (4 < t298.length) = true := decide_eq_true Qa
 clear c11
 obtain ⟨c12, H⟩ := Qq H
 have c12b0 := decide_eq_true c12
 have c12b1 : decide (5 < t298.length) = true := decide_eq_true Qa
 clear c12
 obtain ⟨t309, A13, H⟩ := Qo H
 try dsimp only at H
 by_cases c14 : t309 = true
 ·subst c14
  have H1 : (some (rd t298 0, wrap64 ((wrap64 ((wrap64 ((rd t298 1) * 1024)) + (wrap64 ((rd t298 2) * 32)))) + (rd t298 3)), rd t298 4, rd t298 5, t299, 0)) = some (r1, r2, r3, r4, r5, r6) := by rw [if_pos rfl] at H; exact H
  clear H
  have H := H1
  clear H1
  simp only [Option.some.injEq, Prod.mk.injEq] at H
  obtain ⟨rfl, rfl, rfl, rfl, rfl, rfl⟩ := H
  go_enter Tryz.func15, Tryz.ntmps15
  try go_wp2_with (first | ((with_reducible refine ld_ (N := 2) rfl ?_); refine de_ ?hg (N := 2) ?hd (cs := #[.int .i64 0, .int .i64 0, .int .i64 0, .int .i64 0]) (t := 38) ?hr ?_; (case hd => rfl); (case hg => rfl); (case hr => exact Qt); intro gb291 hg w15 hbox hb; have n0_ := ba_.mk (hb_ Qh hb); have n1_ := ba_.mk (hbox); have n2_ := ba_.mk ((by rw [hg]; exact (pb_ Qh) : w.heap.size ≤ gb291)); have n3_ := ba_.mk ((by rw [hg]; exact (pb_ Qh) : w.heap.size ≤ gb291)); clear HB; have HB := n0_; have BK291 := n1_; have GW291 := n2_; have GE291 := n3_; clear n0_ n1_ n2_ n3_; clear hb hbox hg) | ((with_reducible refine va_ (f := 25) rfl ?_); refine lc_ (some 10) rfl rfl Tryz.func25 Qb rfl #[.string a0] rfl Qm ?_; (with_reducible refine (of_.calls a0 t292 t293 _ A2.out).mono ?_); rintro e w16 ⟨rfl, hb⟩; refine ⟨_, rfl, ?_⟩; have n0_ := ba_.mk (pc_ (g := gb291) (o := .cells #[.int .i64 0, .int .i64 0, .int .i64 0, .int .i64 0] 38 (0, 0)) (Qf BK291.out) hb); have n1_ := ba_.mk (hb_ Q5 hb); clear BK291; clear HB; have BK291 := n0_; have HB := n1_; clear n0_ n1_; (try clear hb); (try clear hb2); (try clear hk); (try clear hi)) | ((with_reducible refine va_ (f := 12) rfl ?_); refine lc_ (some 19) rfl rfl Tryz.func12 Qb rfl #[.string t292] rfl Qm ?_; (with_reducible refine (mi_.calls t292 t294 t295 _ A4.out).mono ?_); rintro e w17 ⟨v296, rfl, ho0, hb⟩; refine ⟨_, rfl, ?_⟩; have n0_ := ba_.mk (Kd.xd_ ho0 (pb_ Q5)); have n1_ := ba_.mk (pc_ (g := gb291) (o := .cells #[.int .i64 0, .int .i64 0, .int .i64 0, .int .i64 0] 38 (0, 0)) (Qf BK291.out) hb); have n2_ := ba_.mk (hb_ Q5 hb); clear BK291; clear HB; have HO297 := n0_; have BK291 := n1_; have HB := n2_; clear n0_ n1_ n2_; (try clear hb); (try clear hb2); (try clear hk); (try clear hi); (try clear ho0); obtain ⟨Ao18, co18, eo18⟩ := Kd.td_ HO297.out; subst eo18) | ((with_reducible refine va_ (f := 46) rfl ?_); refine lc_ (some 24) rfl rfl Tryz.func46 Qb rfl #[.slice Ao18 t294.length co18] rfl Qm ?_; (with_reducible refine (qq_.calls _ _ t294 t298 t299 t300 _ ?side1 ?side2 A5.out).mono ?_); (case side1 => repeat (first | exact (Kd.wb_ HO297.out).2.2 | (with_reducible refine Kd.zc_ ?_ _) | (with_reducible refine Kd.ad_ ?_ _) | (with_reducible refine Kd.od_ ?_))); (case side2 => exact (Kd.wb_ HO297.out).2.1); rintro e w19 ⟨v301, rfl, ho0, hb⟩; refine ⟨_, rfl, ?_⟩; have n0_ := ba_.mk (Kd.ue_ (Qk HO297.out) (Kd.cf_ ho0) hb); have n1_ := ba_.mk (Kd.xd_ (Kd.fg_ ho0 (Kd.R_lt (Qk HO297.out))) (pb_ Q5)); have n2_ := ba_.mk (pc_ (g := gb291) (o := .cells #[.int .i64 0, .int .i64 0, .int .i64 0, .int .i64 0] 38 (0, 0)) (Qf BK291.out) hb); have n3_ := ba_.mk (hb_ Q5 hb); clear HO297; clear BK291; clear HB; have HO297 := n0_; have HO302 := n1_; have BK291 := n2_; have HB := n3_; clear n0_ n1_ n2_ n3_; (try clear hb); (try clear hb2); (try clear hk); (try clear hi); (try clear ho0)))
  have n0_ := ba_.mk (Kd.sb_ HO297.out)
  have n1_ := ba_.mk (Kd.sb_ HO302.out)
  have n2_ := ba_.mk (ma_ BK291.out)
  have n3_ := ba_.mk (ca_ HB.out)
  clear HO297
  clear HO302
  clear BK291
  clear HB
  have HO297 := n0_
  have HO302 := n1_
  have BK291 := n2_
  have HB := n3_
  clear n0_ n1_ n2_ n3_
  obtain ⟨Ao21, co21, eo21⟩ := Kd.td_ HO302.out
  (first | subst eo21 | (injection eo21 with f1_ f2_ f3_; have f4_ := f1_.symm; have f5_ := f3_.symm; clear f1_ f2_ f3_; subst f4_; subst f5_))
  have p303 : 0 ≤ (0 : Int) := Qa
  have q303 : 0 < (t298.length : Int) := of_decide_eq_true Qi
  obtain ⟨ad303, e303, hx303_0⟩ := Kd.ee_ (Kd.wb_ HO302.out).2.2 0 p303 q303
  cases e303
  have qi303 : (0 < t298.length) = True := eq_true Qa
  (try rw [show ((0 : Int)).toNat = 0 from rfl] at hx303_0)
  (try rw [Addr.add_zero'] at hx303_0)
  replace p303 := eq_true p303
  replace q303 := eq_true q303
  have p304 : 0 ≤ (1 : Int) := Qa
  have q304 : 1 < (t298.length : Int) := of_decide_eq_true Qi
  obtain ⟨ad304, e304, hx304_0⟩ := Kd.ee_ (Kd.wb_ HO302.out).2.2 1 p304 q304
  obtain rfl : ad303 = ad304 := (by injection e304)
  (try simp only [show (1 : Int).toNat = 1 from rfl, Nat.reduceMul, Nat.reduceEqDiff, Go.Addr.add, ↓reduceIte] at hx304_0)
  have qi304 : (1 < t298.length) = True := eq_true Qa
  (try rw [show ((1 : Int)).toNat = 1 from rfl] at hx304_0)
  replace p304 := eq_true p304
  replace q304 := eq_true q304
  have p305 : 0 ≤ (2 : Int) := Qa
  have q305 : 2 < (t298.length : Int) := of_decide_eq_true Qi
  obtain ⟨ad305, e305, hx305_0⟩ := Kd.ee_ (Kd.wb_ HO302.out).2.2 2 p305 q305
  obtain rfl : ad303 = ad305 := (by injection e305)
  (try simp only [show (2 : Int).toNat = 2 from rfl, Nat.reduceMul, Nat.reduceEqDiff, Go.Addr.add, ↓reduceIte] at hx305_0)
  have qi305 : (2 < t298.length) = True := eq_true Qa
  (try rw [show ((2 : Int)).toNat = 2 from rfl] at hx305_0)
  replace p305 := eq_true p305
  replace q305 := eq_true q305
  have p306 : 0 ≤ (3 : Int) := Qa
  have q306 : 3 < (t298.length : Int) := of_decide_eq_true Qi
  obtain ⟨ad306, e306, hx306_0⟩ := Kd.ee_ (Kd.wb_ HO302.out).2.2 3 p306 q306
  obtain rfl : ad303 = ad306 := (by injection e306)
  (try simp only [show (3 : Int).toNat = 3 from rfl, Nat.reduceMul, Nat.reduceEqDiff, Go.Addr.add, ↓reduceIte] at hx306_0)
  have qi306 : (3 < t298.length) = True := eq_true Qa
  (try rw [show ((3 : Int)).toNat = 3 from rfl] at hx306_0)
  replace p306 := eq_true p306
  replace q306 := eq_true q306
  have p307 : 0 ≤ (4 : Int) := Qa
  have q307 : 4 < (t298.length : Int) := of_decide_eq_true Qi
  obtain ⟨ad307, e307, hx307_0⟩ := Kd.ee_ (Kd.wb_ HO302.out).2.2 4 p307 q307
  obtain rfl : ad303 = ad307 := (by injection e307)
  (try simp only [show (4 : Int).toNat = 4 from rfl, Nat.reduceMul, Nat.reduceEqDiff, Go.Addr.add, ↓reduceIte] at hx307_0)
  have qi307 : (4 < t298.length) = True := eq_true Qa
  (try rw [show ((4 : Int)).toNat = 4 from rfl] at hx307_0)
  replace p307 := eq_true p307
  replace q307 := eq_true q307
  have p308 : 0 ≤ (5 : Int) := Qa
  have q308 : 5 < (t298.length : Int) := of_decide_eq_true Qi
  obtain ⟨ad308, e308, hx308_0⟩ := Kd.ee_ (Kd.wb_ HO302.out).2.2 5 p308 q308
  obtain rfl : ad303 = ad308 := (by injection e308)
  (try simp only [show (5 : Int).toNat = 5 from rfl, Nat.reduceMul, Nat.reduceEqDiff, Go.Addr.add, ↓reduceIte] at hx308_0)
  have qi308 : (5 < t298.length) = True := eq_true Qa
  (try rw [show ((5 : Int)).toNat = 5 from rfl] at hx308_0)
  replace p308 := eq_true p308
  replace q308 := eq_true q308
  refine ei_ (n := 24) (S := fun w' => w'.cell? ad303 = some (.int .i64 (rd t298 0)) ∧ w'.cell? ⟨ad303.block, ad303.off + 1, none⟩ = some (.int .i64 (rd t298 1)) ∧ w'.cell? ⟨ad303.block, ad303.off + 2, none⟩ = some (.int .i64 (rd t298 2)) ∧ w'.cell? ⟨ad303.block, ad303.off + 3, none⟩ = some (.int .i64 (rd t298 3)) ∧ w'.cell? ⟨ad303.block, ad303.off + 4, none⟩ = some (.int .i64 (rd t298 4)) ∧ w'.cell? ⟨ad303.block, ad303.off + 5, none⟩ = some (.int .i64 (rd t298 5))) (ds := []) Qa5 Qb rfl rfl ⟨hx303_0, hx304_0, hx305_0, hx306_0, hx307_0, hx308_0⟩ (fun hHeld => ?_); refine wh_ ge_.tab8 ge_.ye1_ (fun HT_ HW_ => ?_)
  generalize w19.drew = w20 at HO297 HO302 BK291 HB hx303_0 hx304_0 hx305_0 hx306_0 hx307_0 hx308_0 hHeld ⊢
  refine qc_ (i := 0) (N := some 32) (v := ?_) (a' := ?_) Qa6 rfl rfl Qn Qe (Or.inl ⟨by rfl, ?_⟩) ?_ ?_
  rotate_left
  ·exact Qg
  rotate_left
  ·exact Qd
  refine qc_ (i := 1) (N := some 33) (v := ?_) (a' := ?_) Qa7 rfl rfl Qn Qe (Or.inl ⟨by rfl, ?_⟩) ?_ ?_
  rotate_left
  ·exact Qg
  rotate_left
  ·exact Qd
  refine qc_ (i := 3) (N := some 35) (v := ?_) (a' := ?_) Qa8 rfl rfl Qn Qe (Or.inl ⟨by rfl, ?_⟩) ?_ ?_
  rotate_left
  ·exact Qg
  rotate_left
  ·exact Qd
  refine qc_ (i := 4) (N := some 36) (v := ?_) (a' := ?_) Qa9 rfl rfl Qn Qe (Or.inl ⟨by rfl, ?_⟩) ?_ ?_
  rotate_left
  ·exact Qg
  rotate_left
  ·exact Qd
  refine qc_ (i := 7) (N := some 39) (v := ?_) (a' := ?_) Qba rfl rfl Qn Qe (Or.inl ⟨by rfl, ?_⟩) ?_ ?_
  rotate_left
  ·exact Qg
  rotate_left
  ·exact Qd
  refine qc_ (i := 8) (N := some 40) (v := ?_) (a' := ?_) Qbb rfl rfl Qn Qe (Or.inl ⟨by rfl, ?_⟩) ?_ ?_
  rotate_left
  ·exact Qg
  rotate_left
  ·exact Qd
  refine qc_ (i := 12) (N := some 44) (v := ?_) (a' := ?_) Qbc rfl rfl Qn Qe (Or.inl ⟨by rfl, ?_⟩) ?_ ?_
  rotate_left
  ·exact Qg
  rotate_left
  ·exact Qd
  refine qc_ (i := 13) (N := some 45) (v := ?_) (a' := ?_) Qbd rfl rfl Qn Qe (Or.inl ⟨by rfl, ?_⟩) ?_ ?_
  rotate_left
  ·exact Qg
  rotate_left
  ·exact Qd
  refine qc_ (i := 16) (N := some 48) (v := ?_) (a' := ?_) Qbe rfl rfl Qn Qe (Or.inl ⟨by rfl, ?_⟩) ?_ ?_
  rotate_left
  ·exact Qg
  rotate_left
  ·exact Qd
  refine qc_ (i := 17) (N := some 49) (v := ?_) (a' := ?_) Qbg rfl rfl Qn Qe (Or.inl ⟨by rfl, ?_⟩) ?_ ?_
  rotate_left
  ·exact Qg
  rotate_left
  ·exact Qd
  refine qc_ (i := 19) (N := some 51) (v := ?_) (a' := ?_) Qbh rfl rfl Qn Qe (Or.inl ⟨by rfl, ?_⟩) ?_ ?_
  rotate_left
  ·exact Qg
  rotate_left
  ·exact Qd
  refine qc_ (i := 20) (N := some 52) (v := ?_) (a' := ?_) Qbi rfl rfl Qn Qe (Or.inl ⟨by rfl, ?_⟩) ?_ ?_
  rotate_left
  ·exact Qg
  rotate_left
  ·exact Qd
  refine wf_ (i := 2) (N := some 34) (v := ?_) (a' := ?_) Qbj rfl rfl (ve_ HT_.out HW_.out Qb) Qe (Or.inl ⟨by rfl, ?_⟩) hHeld ?_ ?_
  rotate_left
  ·exact Xg
  rotate_left
  ·exact Qd
  refine wf_ (i := 5) (N := some 37) (v := ?_) (a' := ?_) Qbk rfl rfl (ve_ HT_.out HW_.out Qb) Qe (Or.inl ⟨by rfl, ?_⟩) hHeld ?_ ?_
  rotate_left
  ·exact Xg
  rotate_left
  ·exact Qd
  refine qc_ (i := 6) (N := some 38) (v := ?_) (a' := ?_) Qbl rfl rfl Qn Qe (Or.inl ⟨by rfl, ?_⟩) ?_ ?_
  rotate_left
  ·exact Qg
  rotate_left
  ·exact Qd
  refine wf_ (i := 9) (N := some 41) (v := ?_) (a' := ?_) Qbm rfl rfl (ve_ HT_.out HW_.out Qb) Qe (Or.inl ⟨by rfl, ?_⟩) hHeld ?_ ?_
  rotate_left
  ·exact Xg
  rotate_left
  ·exact Qd
  refine qc_ (i := 10) (N := some 42) (v := ?_) (a' := ?_) Qbn rfl rfl Qn Qe (Or.inl ⟨by rfl, ?_⟩) ?_ ?_
  rotate_left
  ·exact Qg
  rotate_left
  ·exact Qd
  refine qc_ (i := 11) (N := some 43) (v := ?_) (a' := ?_) Qbo rfl rfl Qn Qe (Or.inl ⟨by rfl, ?_⟩) ?_ ?_
  rotate_left
  ·exact Qg
  rotate_left
  ·exact Qd
  refine wf_ (i := 14) (N := some 46) (v := ?_) (a' := ?_) Qbp rfl rfl (ve_ HT_.out HW_.out Qb) Qe (Or.inl ⟨by rfl, ?_⟩) hHeld ?_ ?_
  rotate_left
  ·exact Xg
  rotate_left
  ·exact Qd
  refine qc_ (i := 15) (N := some 47) (v := ?_) (a' := ?_) Qbr rfl rfl Qn Qe (Or.inl ⟨by rfl, ?_⟩) ?_ ?_
  rotate_left
  ·exact Qg
  rotate_left
  ·exact Qd
  refine wf_ (i := 18) (N := some 50) (v := ?_) (a' := ?_) Qbs rfl rfl (ve_ HT_.out HW_.out Qb) Qe (Or.inl ⟨by rfl, ?_⟩) hHeld ?_ ?_
  rotate_left
  ·exact Xg
  rotate_left
  ·exact Qd
  refine wf_ (i := 21) (N := some 53) (v := ?_) (a' := ?_) Qbt rfl rfl (ve_ HT_.out HW_.out Qb) Qe (Or.inl ⟨by rfl, ?_⟩) hHeld ?_ ?_
  rotate_left
  ·exact Xg
  rotate_left
  ·exact Qd
  refine qc_ (i := 22) (N := some 54) (v := ?_) (a' := ?_) Qbu rfl rfl Qn Qe (Or.inl ⟨by rfl, ?_⟩) ?_ ?_
  rotate_left
  ·exact Qg
  rotate_left
  ·exact Qd
  refine one_ (i := 23) (N := none) Qbv rfl rfl Qz Qc (fun K hK => ?_)
  have hs22 : w20.cell? ⟨gb291, 0, none⟩ = some (.int .i64 0) := (la_ BK291.out 0).trans rfl
  have hfs22 := ja_ BK291.out 0
  have hs23 : w20.cell? ⟨gb291, 1, none⟩ = some (.int .i64 0) := (la_ BK291.out 1).trans rfl
  have hfs23 := ja_ BK291.out 1
  have hs24 : w20.cell? ⟨gb291, 2, none⟩ = some (.int .i64 0) := (la_ BK291.out 2).trans rfl
  have hfs24 := ja_ BK291.out 2
  have hs25 : w20.cell? ⟨gb291, 3, none⟩ = some (.int .i64 0) := (la_ BK291.out 3).trans rfl
  have hfs25 := ja_ BK291.out 3
  refine em_ (w1 := ?_) (by rfl) rfl ?_ ?_
  rotate_left
  ·go_simp
   rfl
  refine hK.out _ _ ⟨((cell_far (p := ⟨gb291, _, none⟩) Qv _).trans (((cell_far (p := ⟨gb291, _, none⟩) Qv _).trans (((cell_far (p := ⟨gb291, _, none⟩) Qv _).trans (((cell_far (p := ⟨gb291, _, none⟩) Qv _).trans (hHeld.1)))))))), ((cell_far (p := ⟨gb291, _, none⟩) Qv _).trans (((cell_far (p := ⟨gb291, _, none⟩) Qv _).trans (((cell_far (p := ⟨gb291, _, none⟩) Qv _).trans (((cell_far (p := ⟨gb291, _, none⟩) Qv _).trans (hHeld.2.1)))))))), ((cell_far (p := ⟨gb291, _, none⟩) Qv _).trans (((cell_far (p := ⟨gb291, _, none⟩) Qv _).trans (((cell_far (p := ⟨gb291, _, none⟩) Qv _).trans (((cell_far (p := ⟨gb291, _, none⟩) Qv _).trans (hHeld.2.2.1)))))))), ((cell_far (p := ⟨gb291, _, none⟩) Qv _).trans (((cell_far (p := ⟨gb291, _, none⟩) Qv _).trans (((cell_far (p := ⟨gb291, _, none⟩) Qv _).trans (((cell_far (p := ⟨gb291, _, none⟩) Qv _).trans (hHeld.2.2.2.1)))))))), ((cell_far (p := ⟨gb291, _, none⟩) Qv _).trans (((cell_far (p := ⟨gb291, _, none⟩) Qv _).trans (((cell_far (p := ⟨gb291, _, none⟩) Qv _).trans (((cell_far (p := ⟨gb291, _, none⟩) Qv _).trans (hHeld.2.2.2.2.1)))))))), ((cell_far (p := ⟨gb291, _, none⟩) Qv _).trans (((cell_far (p := ⟨gb291, _, none⟩) Qv _).trans (((cell_far (p := ⟨gb291, _, none⟩) Qv _).trans (((cell_far (p := ⟨gb291, _, none⟩) Qv _).trans (hHeld.2.2.2.2.2))))))))⟩ (fun hHeld => ?_)
  clear hK K
  refine yk_ Xt ?_
  have hcz26_0 : w20.cell? ⟨gb291, 0, none⟩ = some (.int .i64 0) := (la_ BK291.out 0).trans rfl
  have hcz26_1 : w20.cell? ⟨gb291, 1, none⟩ = some (.int .i64 0) := (la_ BK291.out 1).trans rfl
  have hcz26_2 : w20.cell? ⟨gb291, 2, none⟩ = some (.int .i64 0) := (la_ BK291.out 2).trans rfl
  have hcz26_3 : w20.cell? ⟨gb291, 3, none⟩ = some (.int .i64 0) := (la_ BK291.out 3).trans rfl
  have hfz26_0 := ja_ BK291.out 0
  have hfz26_1 := ja_ BK291.out 1
  have hfz26_2 := ja_ BK291.out 2
  have hfz26_3 := ja_ BK291.out 3
  try go_wp2_with (first | ((with_reducible refine va_ (f := 47) rfl ?_); refine lc_ (some 56) rfl rfl Tryz.func47 Qb rfl #[.agg #[.int .i64 (rd t298 0), .int .i64 (wrap64 ((wrap64 ((wrap64 ((rd t298 1) * 1024)) + (wrap64 ((rd t298 2) * 32)))) + (rd t298 3))), .int .i64 (rd t298 4), .int .i64 (rd t298 5)]] rfl Qm ?_; (with_reducible refine (rk_.calls (rd t298 0) (wrap64 ((wrap64 ((wrap64 ((rd t298 1) * 1024)) + (wrap64 ((rd t298 2) * 32)))) + (rd t298 3))) (rd t298 4) (rd t298 5) true _ A13.out).mono ?_); rintro e w27 ⟨rfl, hb⟩; refine ⟨_, rfl, ?_⟩; have n0_ := ba_.mk (Kd.be_ (by (with_reducible repeat (first | apply Kd.bb_ | apply Kd.cb_ | apply Kd.sb_)); exact (Kd.fd_ (Kd.zf_ (p := ⟨gb291, 3, none⟩) (Kd.zf_ (p := ⟨gb291, 2, none⟩) (Kd.zf_ (p := ⟨gb291, 1, none⟩) (Kd.zf_ (p := ⟨gb291, 0, none⟩) (Kd.xe_ HO297.out BK291.out Qc) (fun _ hk => hk.2) (.int .i64 (rd t298 0))) (fun _ hk => hk.2) (.int .i64 (wrap64 ((wrap64 ((wrap64 ((rd t298 1) * 1024)) + (wrap64 ((rd t298 2) * 32)))) + (rd t298 3))))) (fun _ hk => hk.2) (.int .i64 (rd t298 4))) (fun _ hk => hk.2) (.int .i64 (rd t298 5))) (fun _ h_ => h_.1))) hb); have n1_ := ba_.mk (Kd.be_ (by (with_reducible repeat (first | apply Kd.bb_ | apply Kd.cb_ | apply Kd.sb_)); exact (Kd.fd_ (Kd.zf_ (p := ⟨gb291, 3, none⟩) (Kd.zf_ (p := ⟨gb291, 2, none⟩) (Kd.zf_ (p := ⟨gb291, 1, none⟩) (Kd.zf_ (p := ⟨gb291, 0, none⟩) (Kd.xe_ HO302.out BK291.out Qc) (fun _ hk => hk.2) (.int .i64 (rd t298 0))) (fun _ hk => hk.2) (.int .i64 (wrap64 ((wrap64 ((wrap64 ((rd t298 1) * 1024)) + (wrap64 ((rd t298 2) * 32)))) + (rd t298 3))))) (fun _ hk => hk.2) (.int .i64 (rd t298 4))) (fun _ hk => hk.2) (.int .i64 (rd t298 5))) (fun _ h_ => h_.1))) hb); have n2_ := ba_.mk (pc_ (g := gb291) (o := .cells #[.int .i64 (rd t298 0), .int .i64 (wrap64 ((wrap64 ((wrap64 ((rd t298 1) * 1024)) + (wrap64 ((rd t298 2) * 32)))) + (rd t298 3))), .int .i64 (rd t298 4), .int .i64 (rd t298 5)] 38 (0, 0)) (by (with_reducible repeat (first | refine ia_ ?_ _ | refine ma_ ?_ | refine ha_ ?_ _)); refine sc_ (cs := #[.int .i64 (rd t298 0), .int .i64 (wrap64 ((wrap64 ((wrap64 ((rd t298 1) * 1024)) + (wrap64 ((rd t298 2) * 32)))) + (rd t298 3))), .int .i64 (rd t298 4), .int .i64 0]) ?_ 3 _ rfl; (with_reducible repeat (first | refine ia_ ?_ _ | refine ma_ ?_ | refine ha_ ?_ _)); refine sc_ (cs := #[.int .i64 (rd t298 0), .int .i64 (wrap64 ((wrap64 ((wrap64 ((rd t298 1) * 1024)) + (wrap64 ((rd t298 2) * 32)))) + (rd t298 3))), .int .i64 0, .int .i64 0]) ?_ 2 _ rfl; (with_reducible repeat (first | refine ia_ ?_ _ | refine ma_ ?_ | refine ha_ ?_ _)); refine sc_ (cs := #[.int .i64 (rd t298 0), .int .i64 0, .int .i64 0, .int .i64 0]) ?_ 1 _ rfl; (with_reducible repeat (first | refine ia_ ?_ _ | refine ma_ ?_ | refine ha_ ?_ _)); refine sc_ (cs := #[.int .i64 0, .int .i64 0, .int .i64 0, .int .i64 0]) ?_ 0 _ rfl; (with_reducible repeat (first | refine ia_ ?_ _ | refine ma_ ?_ | refine ha_ ?_ _)); exact BK291.out) hb); have n3_ := ba_.mk (hb_ Q5 hb); clear HO297; clear HO302; clear BK291; clear HB; have HO297 := n0_; have HO302 := n1_; have BK291 := n2_; have HB := n3_; clear n0_ n1_ n2_ n3_; (try clear hb); (try clear hb2); (try clear hk); (try clear hi); have hcz28_0 : w27.cell? ⟨gb291, 0, none⟩ = some (.int .i64 (rd t298 0)) := (la_ BK291.out 0).trans rfl; have hcz28_1 : w27.cell? ⟨gb291, 1, none⟩ = some (.int .i64 (wrap64 ((wrap64 ((wrap64 ((rd t298 1) * 1024)) + (wrap64 ((rd t298 2) * 32)))) + (rd t298 3)))) := (la_ BK291.out 1).trans rfl; have hcz28_2 : w27.cell? ⟨gb291, 2, none⟩ = some (.int .i64 (rd t298 4)) := (la_ BK291.out 2).trans rfl; have hcz28_3 : w27.cell? ⟨gb291, 3, none⟩ = some (.int .i64 (rd t298 5)) := (la_ BK291.out 3).trans rfl; have hfz28_0 := ja_ BK291.out 0; have hfz28_1 := ja_ BK291.out 1; have hfz28_2 := ja_ BK291.out 2; have hfz28_3 := ja_ BK291.out 3))
  refine bodyPost_ret (ol_ rfl _ _ gb291 38 #[.int .i64 (rd t298 0), .int .i64 (wrap64 ((wrap64 ((wrap64 ((rd t298 1) * 1024)) + (wrap64 ((rd t298 2) * 32)))) + (rd t298 3))), .int .i64 (rd t298 4), .int .i64 (rd t298 5)] (0, 0) _ rfl (by (with_reducible repeat (first | refine ia_ ?_ _ | refine ma_ ?_ | refine ha_ ?_ _)); refine sc_ (cs := #[.int .i64 (rd t298 0), .int .i64 (wrap64 ((wrap64 ((wrap64 ((rd t298 1) * 1024)) + (wrap64 ((rd t298 2) * 32)))) + (rd t298 3))), .int .i64 (rd t298 4), .int .i64 (rd t298 5)]) ?_ 3 _ rfl; (with_reducible repeat (first | refine ia_ ?_ _ | refine ma_ ?_ | refine ha_ ?_ _)); refine sc_ (cs := #[.int .i64 (rd t298 0), .int .i64 (wrap64 ((wrap64 ((wrap64 ((rd t298 1) * 1024)) + (wrap64 ((rd t298 2) * 32)))) + (rd t298 3))), .int .i64 (rd t298 4), .int .i64 (rd t298 5)]) ?_ 2 _ rfl; (with_reducible repeat (first | refine ia_ ?_ _ | refine ma_ ?_ | refine ha_ ?_ _)); refine sc_ (cs := #[.int .i64 (rd t298 0), .int .i64 (wrap64 ((wrap64 ((wrap64 ((rd t298 1) * 1024)) + (wrap64 ((rd t298 2) * 32)))) + (rd t298 3))), .int .i64 (rd t298 4), .int .i64 (rd t298 5)]) ?_ 1 _ rfl; (with_reducible repeat (first | refine ia_ ?_ _ | refine ma_ ?_ | refine ha_ ?_ _)); refine sc_ (cs := #[.int .i64 (rd t298 0), .int .i64 (wrap64 ((wrap64 ((wrap64 ((rd t298 1) * 1024)) + (wrap64 ((rd t298 2) * 32)))) + (rd t298 3))), .int .i64 (rd t298 4), .int .i64 (rd t298 5)]) ?_ 0 _ rfl; (with_reducible repeat (first | refine ia_ ?_ _ | refine ma_ ?_ | refine ha_ ?_ _)); exact BK291.out) Tryz.underlying38 rfl Qb) rfl ?_
  exact ⟨Qu, Q5⟩
 replace c14 := Bool.eq_false_iff.mpr c14
 subst c14
 have H1 : (some (0, 0, 0, 0, 0, 2)) = some (r1, r2, r3, r4, r5, r6) := by rw [if_neg (show ¬ (false = true) by decide)] at H; exact H
 clear H
 have H := H1
 clear H1
 simp only [Option.some.injEq, Prod.mk.injEq] at H
 obtain ⟨rfl, rfl, rfl, rfl, rfl, rfl⟩ := H
 go_enter Tryz.func15, Tryz.ntmps15
 try go_wp2_with (first | ((with_reducible refine ld_ (N := 2) rfl ?_); refine de_ ?hg (N := 2) ?hd (cs := #[.int .i64 0, .int .i64 0, .int .i64 0, .int .i64 0]) (t := 38) ?hr ?_; (case hd => rfl); (case hg => rfl); (case hr => exact Qt); intro gb291 hg w29 hbox hb; have n0_ := ba_.mk (hb_ Qh hb); have n1_ := ba_.mk (hbox); have n2_ := ba_.mk ((by rw [hg]; exact (pb_ Qh) : w.heap.size ≤ gb291)); have n3_ := ba_.mk ((by rw [hg]; exact (pb_ Qh) : w.heap.size ≤ gb291)); clear HB; have HB := n0_; have BK291 := n1_; have GW291 := n2_; have GE291 := n3_; clear n0_ n1_ n2_ n3_; clear hb hbox hg) | ((with_reducible refine va_ (f := 25) rfl ?_); refine lc_ (some 10) rfl rfl Tryz.func25 Qb rfl #[.string a0] rfl Qm ?_; (with_reducible refine (of_.calls a0 t292 t293 _ A2.out).mono ?_); rintro e w30 ⟨rfl, hb⟩; refine ⟨_, rfl, ?_⟩; have n0_ := ba_.mk (pc_ (g := gb291) (o := .cells #[.int .i64 0, .int .i64 0, .int .i64 0, .int .i64 0] 38 (0, 0)) (Qf BK291.out) hb); have n1_ := ba_.mk (hb_ Q5 hb); clear BK291; clear HB; have BK291 := n0_; have HB := n1_; clear n0_ n1_; (try clear hb); (try clear hb2); (try clear hk); (try clear hi)) | ((with_reducible refine va_ (f := 12) rfl ?_); refine lc_ (some 19) rfl rfl Tryz.func12 Qb rfl #[.string t292] rfl Qm ?_; (with_reducible refine (mi_.calls t292 t294 t295 _ A4.out).mono ?_); rintro e w31 ⟨v296, rfl, ho0, hb⟩; refine ⟨_, rfl, ?_⟩; have n0_ := ba_.mk (Kd.xd_ ho0 (pb_ Q5)); have n1_ := ba_.mk (pc_ (g := gb291) (o := .cells #[.int .i64 0, .int .i64 0, .int .i64 0, .int .i64 0] 38 (0, 0)) (Qf BK291.out) hb); have n2_ := ba_.mk (hb_ Q5 hb); clear BK291; clear HB; have HO297 := n0_; have BK291 := n1_; have HB := n2_; clear n0_ n1_ n2_; (try clear hb); (try clear hb2); (try clear hk); (try clear hi); (try clear ho0); obtain ⟨Ao32, co32, eo32⟩ := Kd.td_ HO297.out; subst eo32) | ((with_reducible refine va_ (f := 46) rfl ?_); refine lc_ (some 24) rfl rfl Tryz.func46 Qb rfl #[.slice Ao32 t294.length co32] rfl Qm ?_; (with_reducible refine (qq_.calls _ _ t294 t298 t299 t300 _ ?side1 ?side2 A5.out).mono ?_); (case side1 => repeat (first | exact (Kd.wb_ HO297.out).2.2 | (with_reducible refine Kd.zc_ ?_ _) | (with_reducible refine Kd.ad_ ?_ _) | (with_reducible refine Kd.od_ ?_))); (case side2 => exact (Kd.wb_ HO297.out).2.1); rintro e w33 ⟨v301, rfl, ho0, hb⟩; refine ⟨_, rfl, ?_⟩; have n0_ := ba_.mk (Kd.ue_ (Qk HO297.out) (Kd.cf_ ho0) hb); have n1_ := ba_.mk (Kd.xd_ (Kd.fg_ ho0 (Kd.R_lt (Qk HO297.out))) (pb_ Q5)); have n2_ := ba_.mk (pc_ (g := gb291) (o := .cells #[.int .i64 0, .int .i64 0, .int .i64 0, .int .i64 0] 38 (0, 0)) (Qf BK291.out) hb); have n3_ := ba_.mk (hb_ Q5 hb); clear HO297; clear BK291; clear HB; have HO297 := n0_; have HO302 := n1_; have BK291 := n2_; have HB := n3_; clear n0_ n1_ n2_ n3_; (try clear hb); (try clear hb2); (try clear hk); (try clear hi); (try clear ho0)))
 have n0_ := ba_.mk (Kd.sb_ HO297.out)
 have n1_ := ba_.mk (Kd.sb_ HO302.out)
 have n2_ := ba_.mk (ma_ BK291.out)
 have n3_ := ba_.mk (ca_ HB.out)
 clear HO297
 clear HO302
 clear BK291
 clear HB
 have HO297 := n0_
 have HO302 := n1_
 have BK291 := n2_
 have HB := n3_
 clear n0_ n1_ n2_ n3_
 obtain ⟨Ao35, co35, eo35⟩ := Kd.td_ HO302.out
 (first | subst eo35 | (injection eo35 with f1_ f2_ f3_; have f4_ := f1_.symm; have f5_ := f3_.symm; clear f1_ f2_ f3_; subst f4_; subst f5_))
 have p303 : 0 ≤ (0 : Int) := Qa
 have q303 : 0 < (t298.length : Int) := of_decide_eq_true Qi
 obtain ⟨ad303, e303, hx303_0⟩ := Kd.ee_ (Kd.wb_ HO302.out).2.2 0 p303 q303
 cases e303
 have qi303 : (0 < t298.length) = True := eq_true Qa
 (try rw [show ((0 : Int)).toNat = 0 from rfl] at hx303_0)
 (try rw [Addr.add_zero'] at hx303_0)
 replace p303 := eq_true p303
 replace q303 := eq_true q303
 have p304 : 0 ≤ (1 : Int) := Qa
 have q304 : 1 < (t298.length : Int) := of_decide_eq_true Qi
 obtain ⟨ad304, e304, hx304_0⟩ := Kd.ee_ (Kd.wb_ HO302.out).2.2 1 p304 q304
 obtain rfl : ad303 = ad304 := (by injection e304)
 (try simp only [show (1 : Int).toNat = 1 from rfl, Nat.reduceMul, Nat.reduceEqDiff, Go.Addr.add, ↓reduceIte] at hx304_0)
 have qi304 : (1 < t298.length) = True := eq_true Qa
 (try rw [show ((1 : Int)).toNat = 1 from rfl] at hx304_0)
 replace p304 := eq_true p304
 replace q304 := eq_true q304
 have p305 : 0 ≤ (2 : Int) := Qa
 have q305 : 2 < (t298.length : Int) := of_decide_eq_true Qi
 obtain ⟨ad305, e305, hx305_0⟩ := Kd.ee_ (Kd.wb_ HO302.out).2.2 2 p305 q305
 obtain rfl : ad303 = ad305 := (by injection e305)
 (try simp only [show (2 : Int).toNat = 2 from rfl, Nat.reduceMul, Nat.reduceEqDiff, Go.Addr.add, ↓reduceIte] at hx305_0)
 have qi305 : (2 < t298.length) = True := eq_true Qa
 (try rw [show ((2 : Int)).toNat = 2 from rfl] at hx305_0)
 replace p305 := eq_true p305
 replace q305 := eq_true q305
 have p306 : 0 ≤ (3 : Int) := Qa
 have q306 : 3 < (t298.length : Int) := of_decide_eq_true Qi
 obtain ⟨ad306, e306, hx306_0⟩ := Kd.ee_ (Kd.wb_ HO302.out).2.2 3 p306 q306
 obtain rfl : ad303 = ad306 := (by injection e306)
 (try simp only [show (3 : Int).toNat = 3 from rfl, Nat.reduceMul, Nat.reduceEqDiff, Go.Addr.add, ↓reduceIte] at hx306_0)
 have qi306 : (3 < t298.length) = True := eq_true Qa
 (try rw [show ((3 : Int)).toNat = 3 from rfl] at hx306_0)
 replace p306 := eq_true p306
 replace q306 := eq_true q306
 have p307 : 0 ≤ (4 : Int) := Qa
 have q307 : 4 < (t298.length : Int) := of_decide_eq_true Qi
 obtain ⟨ad307, e307, hx307_0⟩ := Kd.ee_ (Kd.wb_ HO302.out).2.2 4 p307 q307
 obtain rfl : ad303 = ad307 := (by injection e307)
 (try simp only [show (4 : Int).toNat = 4 from rfl, Nat.reduceMul, Nat.reduceEqDiff, Go.Addr.add, ↓reduceIte] at hx307_0)
 have qi307 : (4 < t298.length) = True := eq_true Qa
 (try rw [show ((4 : Int)).toNat = 4 from rfl] at hx307_0)
 replace p307 := eq_true p307
 replace q307 := eq_true q307
 have p308 : 0 ≤ (5 : Int) := Qa
 have q308 : 5 < (t298.length : Int) := of_decide_eq_true Qi
 obtain ⟨ad308, e308, hx308_0⟩ := Kd.ee_ (Kd.wb_ HO302.out).2.2 5 p308 q308
 obtain rfl : ad303 = ad308 := (by injection e308)
 (try simp only [show (5 : Int).toNat = 5 from rfl, Nat.reduceMul, Nat.reduceEqDiff, Go.Addr.add, ↓reduceIte] at hx308_0)
 have qi308 : (5 < t298.length) = True := eq_true Qa
 (try rw [show ((5 : Int)).toNat = 5 from rfl] at hx308_0)
 replace p308 := eq_true p308
 replace q308 := eq_true q308
 refine ei_ (n := 24) (S := fun w' => w'.cell? ad303 = some (.int .i64 (rd t298 0)) ∧ w'.cell? ⟨ad303.block, ad303.off + 1, none⟩ = some (.int .i64 (rd t298 1)) ∧ w'.cell? ⟨ad303.block, ad303.off + 2, none⟩ = some (.int .i64 (rd t298 2)) ∧ w'.cell? ⟨ad303.block, ad303.off + 3, none⟩ = some (.int .i64 (rd t298 3)) ∧ w'.cell? ⟨ad303.block, ad303.off + 4, none⟩ = some (.int .i64 (rd t298 4)) ∧ w'.cell? ⟨ad303.block, ad303.off + 5, none⟩ = some (.int .i64 (rd t298 5))) (ds := []) Qa5 Qb rfl rfl ⟨hx303_0, hx304_0, hx305_0, hx306_0, hx307_0, hx308_0⟩ (fun hHeld => ?_); refine wh_ ge_.tab8 ge_.ye1_ (fun HT_ HW_ => ?_)
 generalize w33.drew = w34 at HO297 HO302 BK291 HB hx303_0 hx304_0 hx305_0 hx306_0 hx307_0 hx308_0 hHeld ⊢
 refine qc_ (i := 0) (N := some 32) (v := ?_) (a' := ?_) Qa6 rfl rfl Qn Qe (Or.inl ⟨by rfl, ?_⟩) ?_ ?_
 rotate_left
 ·exact Qg
 rotate_left
 ·exact Qd
 refine qc_ (i := 1) (N := some 33) (v := ?_) (a' := ?_) Qa7 rfl rfl Qn Qe (Or.inl ⟨by rfl, ?_⟩) ?_ ?_
 rotate_left
 ·exact Qg
 rotate_left
 ·exact Qd
 refine qc_ (i := 3) (N := some 35) (v := ?_) (a' := ?_) Qa8 rfl rfl Qn Qe (Or.inl ⟨by rfl, ?_⟩) ?_ ?_
 rotate_left
 ·exact Qg
 rotate_left
 ·exact Qd
 refine qc_ (i := 4) (N := some 36) (v := ?_) (a' := ?_) Qa9 rfl rfl Qn Qe (Or.inl ⟨by rfl, ?_⟩) ?_ ?_
 rotate_left
 ·exact Qg
 rotate_left
 ·exact Qd
 refine qc_ (i := 7) (N := some 39) (v := ?_) (a' := ?_) Qba rfl rfl Qn Qe (Or.inl ⟨by rfl, ?_⟩) ?_ ?_
 rotate_left
 ·exact Qg
 rotate_left
 ·exact Qd
 refine qc_ (i := 8) (N := some 40) (v := ?_) (a' := ?_) Qbb rfl rfl Qn Qe (Or.inl ⟨by rfl, ?_⟩) ?_ ?_
 rotate_left
 ·exact Qg
 rotate_left
 ·exact Qd
 refine qc_ (i := 12) (N := some 44) (v := ?_) (a' := ?_) Qbc rfl rfl Qn Qe (Or.inl ⟨by rfl, ?_⟩) ?_ ?_
 rotate_left
 ·exact Qg
 rotate_left
 ·exact Qd
 refine qc_ (i := 13) (N := some 45) (v := ?_) (a' := ?_) Qbd rfl rfl Qn Qe (Or.inl ⟨by rfl, ?_⟩) ?_ ?_
 rotate_left
 ·exact Qg
 rotate_left
 ·exact Qd
 refine qc_ (i := 16) (N := some 48) (v := ?_) (a' := ?_) Qbe rfl rfl Qn Qe (Or.inl ⟨by rfl, ?_⟩) ?_ ?_
 rotate_left
 ·exact Qg
 rotate_left
 ·exact Qd
 refine qc_ (i := 17) (N := some 49) (v := ?_) (a' := ?_) Qbg rfl rfl Qn Qe (Or.inl ⟨by rfl, ?_⟩) ?_ ?_
 rotate_left
 ·exact Qg
 rotate_left
 ·exact Qd
 refine qc_ (i := 19) (N := some 51) (v := ?_) (a' := ?_) Qbh rfl rfl Qn Qe (Or.inl ⟨by rfl, ?_⟩) ?_ ?_
 rotate_left
 ·exact Qg
 rotate_left
 ·exact Qd
 refine qc_ (i := 20) (N := some 52) (v := ?_) (a' := ?_) Qbi rfl rfl Qn Qe (Or.inl ⟨by rfl, ?_⟩) ?_ ?_
 rotate_left
 ·exact Qg
 rotate_left
 ·exact Qd
 refine wf_ (i := 2) (N := some 34) (v := ?_) (a' := ?_) Qbj rfl rfl (ve_ HT_.out HW_.out Qb) Qe (Or.inl ⟨by rfl, ?_⟩) hHeld ?_ ?_
 rotate_left
 ·exact Xg
 rotate_left
 ·exact Qd
 refine wf_ (i := 5) (N := some 37) (v := ?_) (a' := ?_) Qbk rfl rfl (ve_ HT_.out HW_.out Qb) Qe (Or.inl ⟨by rfl, ?_⟩) hHeld ?_ ?_
 rotate_left
 ·exact Xg
 rotate_left
 ·exact Qd
 refine qc_ (i := 6) (N := some 38) (v := ?_) (a' := ?_) Qbl rfl rfl Qn Qe (Or.inl ⟨by rfl, ?_⟩) ?_ ?_
 rotate_left
 ·exact Qg
 rotate_left
 ·exact Qd
 refine wf_ (i := 9) (N := some 41) (v := ?_) (a' := ?_) Qbm rfl rfl (ve_ HT_.out HW_.out Qb) Qe (Or.inl ⟨by rfl, ?_⟩) hHeld ?_ ?_
 rotate_left
 ·exact Xg
 rotate_left
 ·exact Qd
 refine qc_ (i := 10) (N := some 42) (v := ?_) (a' := ?_) Qbn rfl rfl Qn Qe (Or.inl ⟨by rfl, ?_⟩) ?_ ?_
 rotate_left
 ·exact Qg
 rotate_left
 ·exact Qd
 refine qc_ (i := 11) (N := some 43) (v := ?_) (a' := ?_) Qbo rfl rfl Qn Qe (Or.inl ⟨by rfl, ?_⟩) ?_ ?_
 rotate_left
 ·exact Qg
 rotate_left
 ·exact Qd
 refine wf_ (i := 14) (N := some 46) (v := ?_) (a' := ?_) Qbp rfl rfl (ve_ HT_.out HW_.out Qb) Qe (Or.inl ⟨by rfl, ?_⟩) hHeld ?_ ?_
 rotate_left
 ·exact Xg
 rotate_left
 ·exact Qd
 refine qc_ (i := 15) (N := some 47) (v := ?_) (a' := ?_) Qbr rfl rfl Qn Qe (Or.inl ⟨by rfl, ?_⟩) ?_ ?_
 rotate_left
 ·exact Qg
 rotate_left
 ·exact Qd
 refine wf_ (i := 18) (N := some 50) (v := ?_) (a' := ?_) Qbs rfl rfl (ve_ HT_.out HW_.out Qb) Qe (Or.inl ⟨by rfl, ?_⟩) hHeld ?_ ?_
 rotate_left
 ·exact Xg
 rotate_left
 ·exact Qd
 refine wf_ (i := 21) (N := some 53) (v := ?_) (a' := ?_) Qbt rfl rfl (ve_ HT_.out HW_.out Qb) Qe (Or.inl ⟨by rfl, ?_⟩) hHeld ?_ ?_
 rotate_left
 ·exact Xg
 rotate_left
 ·exact Qd
 refine qc_ (i := 22) (N := some 54) (v := ?_) (a' := ?_) Qbu rfl rfl Qn Qe (Or.inl ⟨by rfl, ?_⟩) ?_ ?_
 rotate_left
 ·exact Qg
 rotate_left
 ·exact Qd
 refine one_ (i := 23) (N := none) Qbv rfl rfl Qz Qc (fun K hK => ?_)
 have hs36 : w34.cell? ⟨gb291, 0, none⟩ = some (.int .i64 0) := (la_ BK291.out 0).trans rfl
 have hfs36 := ja_ BK291.out 0
 have hs37 : w34.cell? ⟨gb291, 1, none⟩ = some (.int .i64 0) := (la_ BK291.out 1).trans rfl
 have hfs37 := ja_ BK291.out 1
 have hs38 : w34.cell? ⟨gb291, 2, none⟩ = some (.int .i64 0) := (la_ BK291.out 2).trans rfl
 have hfs38 := ja_ BK291.out 2
 have hs39 : w34.cell? ⟨gb291, 3, none⟩ = some (.int .i64 0) := (la_ BK291.out 3).trans rfl
 have hfs39 := ja_ BK291.out 3
 refine em_ (w1 := ?_) (by rfl) rfl ?_ ?_
 rotate_left
 ·go_simp
  rfl
 refine hK.out _ _ ⟨((cell_far (p := ⟨gb291, _, none⟩) Qv _).trans (((cell_far (p := ⟨gb291, _, none⟩) Qv _).trans (((cell_far (p := ⟨gb291, _, none⟩) Qv _).trans (((cell_far (p := ⟨gb291, _, none⟩) Qv _).trans (hHeld.1)))))))), ((cell_far (p := ⟨gb291, _, none⟩) Qv _).trans (((cell_far (p := ⟨gb291, _, none⟩) Qv _).trans (((cell_far (p := ⟨gb291, _, none⟩) Qv _).trans (((cell_far (p := ⟨gb291, _, none⟩) Qv _).trans (hHeld.2.1)))))))), ((cell_far (p := ⟨gb291, _, none⟩) Qv _).trans (((cell_far (p := ⟨gb291, _, none⟩) Qv _).trans (((cell_far (p := ⟨gb291, _, none⟩) Qv _).trans (((cell_far (p := ⟨gb291, _, none⟩) Qv _).trans (hHeld.2.2.1)))))))), ((cell_far (p := ⟨gb291, _, none⟩) Qv _).trans (((cell_far (p := ⟨gb291, _, none⟩) Qv _).trans (((cell_far (p := ⟨gb291, _, none⟩) Qv _).trans (((cell_far (p := ⟨gb291, _, none⟩) Qv _).trans (hHeld.2.2.2.1)))))))), ((cell_far (p := ⟨gb291, _, none⟩) Qv _).trans (((cell_far (p := ⟨gb291, _, none⟩) Qv _).trans (((cell_far (p := ⟨gb291, _, none⟩) Qv _).trans (((cell_far (p := ⟨gb291, _, none⟩) Qv _).trans (hHeld.2.2.2.2.1)))))))), ((cell_far (p := ⟨gb291, _, none⟩) Qv _).trans (((cell_far (p := ⟨gb291, _, none⟩) Qv _).trans (((cell_far (p := ⟨gb291, _, none⟩) Qv _).trans (((cell_far (p := ⟨gb291, _, none⟩) Qv _).trans (hHeld.2.2.2.2.2))))))))⟩ (fun hHeld => ?_)
 clear hK K
 refine yk_ Xt ?_
 have hcz40_0 : w34.cell? ⟨gb291, 0, none⟩ = some (.int .i64 0) := (la_ BK291.out 0).trans rfl
 have hcz40_1 : w34.cell? ⟨gb291, 1, none⟩ = some (.int .i64 0) := (la_ BK291.out 1).trans rfl
 have hcz40_2 : w34.cell? ⟨gb291, 2, none⟩ = some (.int .i64 0) := (la_ BK291.out 2).trans rfl
 have hcz40_3 : w34.cell? ⟨gb291, 3, none⟩ = some (.int .i64 0) := (la_ BK291.out 3).trans rfl
 have hfz40_0 := ja_ BK291.out 0
 have hfz40_1 := ja_ BK291.out 1
 have hfz40_2 := ja_ BK291.out 2
 have hfz40_3 := ja_ BK291.out 3
 try go_wp2_with (first | ((with_reducible refine va_ (f := 47) rfl ?_); refine lc_ (some 56) rfl rfl Tryz.func47 Qb rfl #[.agg #[.int .i64 (rd t298 0), .int .i64 (wrap64 ((wrap64 ((wrap64 ((rd t298 1) * 1024)) + (wrap64 ((rd t298 2) * 32)))) + (rd t298 3))), .int .i64 (rd t298 4), .int .i64 (rd t298 5)]] rfl Qm ?_; (with_reducible refine (rk_.calls (rd t298 0) (wrap64 ((wrap64 ((wrap64 ((rd t298 1) * 1024)) + (wrap64 ((rd t298 2) * 32)))) + (rd t298 3))) (rd t298 4) (rd t298 5) false _ A13.out).mono ?_); rintro e w41 ⟨rfl, hb⟩; refine ⟨_, rfl, ?_⟩; have n0_ := ba_.mk (Kd.be_ (by (with_reducible repeat (first | apply Kd.bb_ | apply Kd.cb_ | apply Kd.sb_)); exact (Kd.fd_ (Kd.zf_ (p := ⟨gb291, 3, none⟩) (Kd.zf_ (p := ⟨gb291, 2, none⟩) (Kd.zf_ (p := ⟨gb291, 1, none⟩) (Kd.zf_ (p := ⟨gb291, 0, none⟩) (Kd.xe_ HO297.out BK291.out Qc) (fun _ hk => hk.2) (.int .i64 (rd t298 0))) (fun _ hk => hk.2) (.int .i64 (wrap64 ((wrap64 ((wrap64 ((rd t298 1) * 1024)) + (wrap64 ((rd t298 2) * 32)))) + (rd t298 3))))) (fun _ hk => hk.2) (.int .i64 (rd t298 4))) (fun _ hk => hk.2) (.int .i64 (rd t298 5))) (fun _ h_ => h_.1))) hb); have n1_ := ba_.mk (Kd.be_ (by (with_reducible repeat (first | apply Kd.bb_ | apply Kd.cb_ | apply Kd.sb_)); exact (Kd.fd_ (Kd.zf_ (p := ⟨gb291, 3, none⟩) (Kd.zf_ (p := ⟨gb291, 2, none⟩) (Kd.zf_ (p := ⟨gb291, 1, none⟩) (Kd.zf_ (p := ⟨gb291, 0, none⟩) (Kd.xe_ HO302.out BK291.out Qc) (fun _ hk => hk.2) (.int .i64 (rd t298 0))) (fun _ hk => hk.2) (.int .i64 (wrap64 ((wrap64 ((wrap64 ((rd t298 1) * 1024)) + (wrap64 ((rd t298 2) * 32)))) + (rd t298 3))))) (fun _ hk => hk.2) (.int .i64 (rd t298 4))) (fun _ hk => hk.2) (.int .i64 (rd t298 5))) (fun _ h_ => h_.1))) hb); have n2_ := ba_.mk (pc_ (g := gb291) (o := .cells #[.int .i64 (rd t298 0), .int .i64 (wrap64 ((wrap64 ((wrap64 ((rd t298 1) * 1024)) + (wrap64 ((rd t298 2) * 32)))) + (rd t298 3))), .int .i64 (rd t298 4), .int .i64 (rd t298 5)] 38 (0, 0)) (by (with_reducible repeat (first | refine ia_ ?_ _ | refine ma_ ?_ | refine ha_ ?_ _)); refine sc_ (cs := #[.int .i64 (rd t298 0), .int .i64 (wrap64 ((wrap64 ((wrap64 ((rd t298 1) * 1024)) + (wrap64 ((rd t298 2) * 32)))) + (rd t298 3))), .int .i64 (rd t298 4), .int .i64 0]) ?_ 3 _ rfl; (with_reducible repeat (first | refine ia_ ?_ _ | refine ma_ ?_ | refine ha_ ?_ _)); refine sc_ (cs := #[.int .i64 (rd t298 0), .int .i64 (wrap64 ((wrap64 ((wrap64 ((rd t298 1) * 1024)) + (wrap64 ((rd t298 2) * 32)))) + (rd t298 3))), .int .i64 0, .int .i64 0]) ?_ 2 _ rfl; (with_reducible repeat (first | refine ia_ ?_ _ | refine ma_ ?_ | refine ha_ ?_ _)); refine sc_ (cs := #[.int .i64 (rd t298 0), .int .i64 0, .int .i64 0, .int .i64 0]) ?_ 1 _ rfl; (with_reducible repeat (first | refine ia_ ?_ _ | refine ma_ ?_ | refine ha_ ?_ _)); refine sc_ (cs := #[.int .i64 0, .int .i64 0, .int .i64 0, .int .i64 0]) ?_ 0 _ rfl; (with_reducible repeat (first | refine ia_ ?_ _ | refine ma_ ?_ | refine ha_ ?_ _)); exact BK291.out) hb); have n3_ := ba_.mk (hb_ Q5 hb); clear HO297; clear HO302; clear BK291; clear HB; have HO297 := n0_; have HO302 := n1_; have BK291 := n2_; have HB := n3_; clear n0_ n1_ n2_ n3_; (try clear hb); (try clear hb2); (try clear hk); (try clear hi); have hcz42_0 : w41.cell? ⟨gb291, 0, none⟩ = some (.int .i64 (rd t298 0)) := (la_ BK291.out 0).trans rfl; have hcz42_1 : w41.cell? ⟨gb291, 1, none⟩ = some (.int .i64 (wrap64 ((wrap64 ((wrap64 ((rd t298 1) * 1024)) + (wrap64 ((rd t298 2) * 32)))) + (rd t298 3)))) := (la_ BK291.out 1).trans rfl; have hcz42_2 : w41.cell? ⟨gb291, 2, none⟩ = some (.int .i64 (rd t298 4)) := (la_ BK291.out 2).trans rfl; have hcz42_3 : w41.cell? ⟨gb291, 3, none⟩ = some (.int .i64 (rd t298 5)) := (la_ BK291.out 3).trans rfl; have hfz42_0 := ja_ BK291.out 0; have hfz42_1 := ja_ BK291.out 1; have hfz42_2 := ja_ BK291.out 2; have hfz42_3 := ja_ BK291.out 3))
 refine bodyPost_ret (ol_ rfl _ _ gb291 38 #[.int .i64 0, .int .i64 0, .int .i64 0, .int .i64 0] (0, 0) _ rfl (by (with_reducible repeat (first | refine ia_ ?_ _ | refine ma_ ?_ | refine ha_ ?_ _)); refine sc_ (cs := #[.int .i64 0, .int .i64 0, .int .i64 0, .int .i64 (rd t298 5)]) ?_ 3 _ rfl; (with_reducible repeat (first | refine ia_ ?_ _ | refine ma_ ?_ | refine ha_ ?_ _)); refine sc_ (cs := #[.int .i64 0, .int .i64 0, .int .i64 (rd t298 4), .int .i64 (rd t298 5)]) ?_ 2 _ rfl; (with_reducible repeat (first | refine ia_ ?_ _ | refine ma_ ?_ | refine ha_ ?_ _)); refine sc_ (cs := #[.int .i64 0, .int .i64 (wrap64 ((wrap64 ((wrap64 ((rd t298 1) * 1024)) + (wrap64 ((rd t298 2) * 32)))) + (rd t298 3))), .int .i64 (rd t298 4), .int .i64 (rd t298 5)]) ?_ 1 _ rfl; (with_reducible repeat (first | refine ia_ ?_ _ | refine ma_ ?_ | refine ha_ ?_ _)); refine sc_ (cs := #[.int .i64 (rd t298 0), .int .i64 (wrap64 ((wrap64 ((wrap64 ((rd t298 1) * 1024)) + (wrap64 ((rd t298 2) * 32)))) + (rd t298 3))), .int .i64 (rd t298 4), .int .i64 (rd t298 5)]) ?_ 0 _ rfl; (with_reducible repeat (first | refine ia_ ?_ _ | refine ma_ ?_ | refine ha_ ?_ _)); exact BK291.out) Tryz.underlying38 rfl Qb) rfl ?_
 exact ⟨Qu, Q5⟩
end Go.Proofs.YtpkhgapifnjbeaaGreatDoor.TL
end
