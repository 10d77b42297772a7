/- Put together by pack2.py. -/
import Derived.Laws.CopyOwn
import Derived.Outline
import Derived.Deep.LoopGhost
import Derived.Deep.DeepCutAuto
import Derived.Deep.CutBlock
import Derived.LoopTactic
import Derived.Test.YtpkhgapifnjbeaaGreatDoorProg
import Derived.Below
import Derived.Deep.Draws
import Derived.Deep.AppendLies
import Derived.Maps.AppendAt
import Derived.OwnWalk
import Derived.Laws.BytesArg
import Derived.Laws.MakeOwn
import Derived.Laws.OwnMore
import Derived.Deep.OwnRows
import Derived.Tactics
import Derived.Lib.ConvBytes
import Derived.Laws.Slices
import Derived.WalkKit
import Derived.KernelRfl
import Derived.RowKit3
import Derived.Deep.QuietTactic
import Derived.BigQuiet
import Derived.WideLaws
import Derived.Deep.RegionHeld3
import Derived.Laws.Rows
import Derived.Lib.AppendStr
import Derived.ArgAppend
import Derived.Laws.IdiomCopy
import Derived.OrdersHeld
import Derived.Laws.BitsLemmas
import Derived.RowKit
import Derived.Test.YtpkhgapifnjbeaaGreatDoorXB2
set_option linter.unusedVariables false
set_option linter.unusedSimpArgs false
section
namespace Go.Proofs.YtpkhgapifnjbeaaGreatDoor.G
open RowKit Zw.PrintWords Zw.PrintLast Zw.PrintMore Rs
theorem M_int0 (W : World) (base : Nat) : (Kd.int .i64).M W base (fun _ => False) (0 : Int) (Value.cells (.int .i64 0)).toList := rfl
set_option maxHeartbeats 4000000 in
set_option maxRecDepth 100000 in
theorem ib1_ (n : Nat) (h1 : 1 ≤ n) (hn : n ≤ 1000) (w : World) :
  Calls Tryz.prog 93 #[.slice none 0 0, .int .i64 n] w fun e w' => ∃ v : Value, e = .returned v ∧ Kd.R (Kd.int .i64) 3 w' w.heap.size (fun _ => True) v [] ∧ Below w.heap.size w w' := by
 have hw : wrap64 ((n : Int) - wrap64 ((0 : Int) - 0)) = (n : Int) := by unfold wrap64; omega
 have hw0 : wrap64 ((0 : Int) - 0) = (0 : Int) := by unfold wrap64; omega
 have hw1 : wrap64 ((n : Int) - 0) = (n : Int) := by unfold wrap64; omega
 have hk := Lib.hid hn
 go_enter Tryz.func93, Tryz.ntmps93
 go_wp2_with (first | ((with_reducible refine md_ (N := 22) rfl ?_); refine Kd.mq_ (Kd.int .i64) w.heap.size rfl _ _ 22 3 3 (.int .i64 0) 8 rfl Tryz.underlying22 (k := .i64) Tryz.underlying3 Qb rfl Qh Qh (.slice none 0 0) [] (0 : Int) (n : Int) (fun _ => True) rfl rfl (M_int0 _ _) (fun _ _ => trivial) (Kd.yf_ _ _ _ _ _) Qa (Below.refl _ _) (Nat.le_refl _) (by have := hk.out; simp only [List.length_nil, Int.toNat_natCast]; omega) ?_; intro v1 w1 ho hb hg hat; clear hg hat; rw [Int.toNat_natCast] at ho; obtain ⟨go, co, eo, hgo, hgl, _⟩ := Kd.mi_ ho (by simp only [List.nil_append, List.length_replicate]; omega); subst eo; have HO := Lib.hid ho; have HB := Lib.hid hb; clear ho hb))
 go_ret
 exact ⟨_, rfl, Kd.fa1_ HO.out (Nat.zero_le _), HB.out⟩
set_option maxHeartbeats 4000000 in
set_option maxRecDepth 100000 in
theorem ty_ (w : World) : Calls Tryz.prog 93 #[.slice none 0 0, .int .i64 (0 : Nat)] w fun e w' => e = .returned (.slice none 0 0) ∧ w = w' := by
 have hw : wrap64 ((0 : Int) - wrap64 ((0 : Int) - 0)) = (0 : Int) := by unfold wrap64; omega
 have hw0 : wrap64 ((0 : Int) - 0) = (0 : Int) := by unfold wrap64; omega
 go_enter Tryz.func93, Tryz.ntmps93
 go_wp2
 go_ret
 exact ⟨rfl, rfl⟩
theorem xd1_ (n : Nat) (hn : n ≤ 1000) (w : World) :
  Calls Tryz.prog 93 #[.slice none 0 0, .int .i64 n] w fun e w' => ∃ v : Value, e = .returned v ∧ Kd.R (Kd.int .i64) 3 w' w.heap.size (fun _ => True) v [] ∧ Below w.heap.size w w' := by
 by_cases h1 : 1 ≤ n
 ·exact ib1_ n h1 hn w
 obtain rfl : n = 0 := by omega
 exact (ty_ w).mono fun e w' ⟨he, hw⟩ => ⟨_, he, Kd.yf_ _ _ _ _ _, hw ▸ Below.refl _ _⟩
def sq_ (a b i : Nat) : Nat := if i = 0 then 0 else if i = 1 then a else a + b
def gq_ (l0 l1 : List Int) (i : Nat) : List Int := if i = 0 then [] else if i = 1 then l0 else l0 ++ l1
set_option maxHeartbeats 4000000 in
set_option maxRecDepth 100000 in
theorem ov_ (b cb : Nat) (A0 : Option Addr) (c0 : Nat) (l0 : List Int) (A1 : Option Addr) (c1 : Nat) (l1 : List Int) (w : World) (hb0 : w.cell? ⟨b, 0, none⟩ = some (.slice A0 l0.length c0)) (hb1 : w.cell? ⟨b, 1, none⟩ = some (.slice A1 l1.length c1))
  (hr0 : Kd.C (Kd.int .i64) w A0 l0.length l0) (hc0 : l0.length ≤ c0) (hr1 : Kd.C (Kd.int .i64) w A1 l1.length l1) (hc1 : l1.length ≤ c1) (hl0 : l0.length ≤ 500) (hl1 : l1.length ≤ 500) :
  Calls Tryz.prog 66 #[.slice (some ⟨b, 0, none⟩) 2 cb] w fun e w' => ∃ v : Value, e = .returned v ∧ Kd.R (Kd.int .i64) 3 w' w.heap.size (fun _ => True) v (l0 ++ l1) ∧ Below w.heap.size w w' := by
 have HR0 := Lib.hid hr0
 have HR1 := Lib.hid hr1
 have HC0 := Lib.hid hc0
 have HC1 := Lib.hid hc1
 clear hr0 hr1 hc0 hc1
 go_enter Tryz.func66, Tryz.ntmps66
 go_wp2
 go_loop [3, 11] (fun v3 v11 => ∃ i : Nat, i ≤ 2 ∧ v11 = .int .i64 i ∧ v3 = .int .i64 (sq_ l0.length l1.length i : Nat)) (fun _ v => 2 - (intOf v).toNat)
 case atStart => exact ⟨0, Qa, rfl, rfl⟩
 case round =>
  obtain ⟨i, hi, rfl, rfl⟩ := hrel
  by_cases hi2 : i < 2
  ·obtain ⟨A, n, c, hcell, hlen, hup⟩ : ∃ (A : Option Addr) (n c : Nat), w.cell? ⟨b, i, none⟩ = some (.slice A n c) ∧ n ≤ 500 ∧ sq_ l0.length l1.length (i + 1) = sq_ l0.length l1.length i + n ∧ sq_ l0.length l1.length i ≤ 500 := by
    rcases (show i = 0 ∨ i = 1 from by omega) with rfl | rfl
    ·exact ⟨A0, l0.length, c0, hb0, hl0, by simp [sq_], by simp [sq_]⟩
    ·exact ⟨A1, l1.length, c1, hb1, hl1, by simp [sq_], by simp [sq_]; omega⟩
   generalize sq_ l0.length l1.length i = s at hup ⊢
   have hw : wrap64 ((s : Int) + (n : Int)) = ((s + n : Nat) : Int) := by unfold wrap64; omega
   have hU := Lib.hid hup.1
   clear hup
   go_wp2
   go_round
   case rel => exact ⟨i + 1, Qa, Q2, by rw [hU.out]; first | rfl | (rw [← hw]; done) | (simp [hw]; done) | (push_cast; rfl) | trace_state⟩
   case measure => simp [intOf]; omega
  obtain rfl : i = 2 := by omega
  have hup : sq_ l0.length l1.length 2 = l0.length + l1.length := rfl
  rw [hup]
  obtain ⟨N, hN⟩ : ∃ N, N = l0.length + l1.length := ⟨_, rfl⟩
  rw [← hN]
  have hk := Lib.hid (show N ≤ 1000 from by omega)
  have hNN := Lib.hid hN
  clear hN hup
  go_wp2_with (first | ((with_reducible refine ia_ (f := 93) rfl ?_); refine gc_ (some 24) rfl rfl Tryz.func93 Qb rfl #[.slice none 0 0, .int .i64 N] rfl Xv ?_; (with_reducible refine (xd1_ N hk.out _).mono ?_); rintro e w1 ⟨v1, rfl, ho, hb⟩; refine ⟨_, rfl, ?_⟩; have HO := Lib.hid ho; have HB := Lib.hid hb; clear ho hb))
  go_loopw [6, 27] (fun v6 v27 wr => ∃ i : Nat, i ≤ 2 ∧ v27 = .int .i64 i ∧ Hid (Kd.R (Kd.int .i64) 3 wr w.heap.size (fun _ => True) v6 (gq_ l0 l1 i)) ∧ Hid (Below w.heap.size w wr)) (fun _ v _ => 2 - (intOf v).toNat)
  case atStart => exact ⟨0, Qa, rfl, HO, HB⟩
  case round =>
   clear HO HB
   obtain ⟨i, hi, rfl, HO, HB⟩ := hrel
   by_cases hi2 : i < 2
   rotate_left
   ·obtain rfl : i = 2 := by omega
    go_wp2
    go_ret
    exact ⟨_, rfl, HO.out, HB.out⟩
   obtain ⟨A, l, c, hcell, hread, hup, hlen⟩ : ∃ (A : Option Addr) (l : List Int) (c : Nat), wr.cell? ⟨b, i, none⟩ = some (.slice A l.length c) ∧ Hid (Kd.C (Kd.int .i64) wr A l.length l) ∧ Hid (gq_ l0 l1 (i + 1) = gq_ l0 l1 i ++ l) ∧ Hid ((gq_ l0 l1 i).length + l.length ≤ 1000) := by
    have hlt0 := World.block_lt_of_cell? w _ hb0
    have hlt1 := World.block_lt_of_cell? w _ hb1
    rcases (show i = 0 ∨ i = 1 from by omega) with rfl | rfl
    ·exact ⟨A0, l0, c0, (HB.out.cell hlt0).trans hb0, Lib.hid (Kd.oe_ HR0.out HB.out), Lib.hid (by simp [gq_]), Lib.hid (by simp [gq_]; omega)⟩
    ·exact ⟨A1, l1, c1, (HB.out.cell hlt1).trans hb1, Lib.hid (Kd.oe_ HR1.out HB.out), Lib.hid (by simp [gq_]), Lib.hid (by simp [gq_]; omega)⟩
   obtain ⟨Ao, co, eo⟩ := Kd.pd_ HO.out
   subst eo
   go_wp2_with (first | ((with_reducible refine xd_ (b := .append) (xs := #[.tmp 31, .tmp 32]) rfl ?_); at_builtin; refine Kd.pi_ (Kd.int .i64) (w0 := w) w.heap.size rfl (.tmp 31) (.tmp 32) 22 3 (.int .i64 0) 8 rfl Tryz.underlying22 Qb rfl Qh Qa (.slice Ao (gq_ l0 l1 i).length co) (gq_ l0 l1 i) l A l.length c (fun _ => True) (fun _ => False) rfl rfl HO.out hread.out (fun _ _ h => h) (fun _ h => h.elim) (fun _ _ => trivial) HB.out (za_ HB.out) (by have := hlen.out; omega) ?_; intro v2 w2 ho hb hg hat; clear hg hat; have HO1 := Lib.hid (show Kd.R (Kd.int .i64) 3 w2 w.heap.size (fun _ => True) v2 (gq_ l0 l1 (i + 1)) from by rw [hup.out]; exact ho); have HB1 := Lib.hid hb; clear ho hb))
   go_roundw
   case rel => exact ⟨i + 1, Qa, Q2, HO1, HB1⟩
   case measure => simp [intOf]; omega
def repL (x : Int) (k : Nat) : List Value := List.replicate k (.int .i64 x) ++ List.replicate (6 - k) (.int .i64 0)
theorem mw_ (x : Int) (m : Nat) : ∀ v ∈ List.replicate m (Value.int .i64 x), v.oneCell' = true := by
 intro v hv
 rw [(List.mem_replicate.1 hv).2]; rfl
theorem fn_ {cur : List Value} {x : Int} {k cap : Nat} (h : cur.take 6 = repL x k ∧ cur.length = cap) (hk : k ≤ 6 := by decide) : 6 ≤ cur.length := by
 have := congrArg List.length h.1
 simp only [repL, List.length_take, List.length_append, List.length_replicate] at this
 omega
theorem nw_ {w : World} {g t k cap : Nat} {cur : List Value} {x : Int} (hg : w.heap[g]? = some (.cells cur.toArray t (0, 0))) (h : cur.take 6 = repL x k ∧ cur.length = cap) (m : Nat) (hm : m ≤ k ∧ k ≤ 6) : ∀ j v, (List.replicate m (Value.int .i64 x))[j]? = some v → w.cell? ((⟨g, 0, none⟩ : Addr).add j) = some v := by
 intro j v hv
 have hj : j < m := by
  rcases Nat.lt_or_ge j m with h | h
  ·exact h
  ·rw [List.getElem?_eq_none (by simpa using h)] at hv; cases hv
 have h1 : (cur.take 6)[j]? = some (.int .i64 x) := by
  rw [h.1, repL, List.getElem?_append_left (by simp; omega)]
  simp [List.getElem?_replicate]; omega
 rw [List.getElem?_take, if_pos Qa] at h1
 have h2 : v = .int .i64 x := by
  rw [List.getElem?_replicate, if_pos hj] at hv; exact (Option.some.inj hv).symm
 have h3 := cell_of_row w g j cur.toArray t (0, 0) hg
 rw [show ((⟨g, 0, none⟩ : Addr).add j) = ⟨g, j, none⟩ from by simp [Addr.add] <;> omega, h3, h2]
 simpa using h1
theorem gn_ {cur L : List Value} (h : cur.take 6 = L) : cur = L ++ cur.drop 6 := by rw [← h, List.take_append_drop]
theorem hc1_ {cur : List Value} {x : Int} (h : cur.take 6 = repL x 1) : (splice cur 1 (List.replicate 1 (.int .i64 x))).take 6 = repL x 2 := by
 rw [gn_ h]; rfl
theorem ic1_ {cur : List Value} {x : Int} (h : cur.take 6 = repL x 2) : (splice cur 2 (List.replicate 2 (.int .i64 x))).take 6 = repL x 4 := by
 rw [gn_ h]; rfl
theorem jc1_ {cur : List Value} {x : Int} (h : cur.take 6 = repL x 4) : (splice cur 4 (List.replicate 2 (.int .i64 x))).take 6 = repL x 6 := by
 rw [gn_ h]; rfl
theorem pz_ {w : World} {base g t cap : Nat} {cur : List Value} {x : Int} (hg : w.heap[g]? = some (.cells cur.toArray t (0, 0))) (h : cur.take 6 = repL x 6 ∧ cur.length = cap) (hcap : 6 ≤ cap) (hmax : cap ≤ maxLen) (hb : base ≤ g) :
  Kd.R (Kd.int .i64) t w base (fun _ => True) (.slice (some ⟨g, 0, none⟩) 6 cap) (List.replicate 6 x) := by
 refine Kd.zn_ ?_ (fun _ _ => trivial)
 refine ⟨by simp [encs], .inr ⟨g, cap, cur.toArray, Qo, hb, hg, ?_, ?_, ?_, ?_⟩⟩
 all_goals first | omega | exact hmax | (simp; omega; done) | (simp; omega) | exact h.1 | (rw [h.1]; rfl) | skip
set_option maxHeartbeats 4000000 in
set_option maxRecDepth 100000 in
theorem ow_ (A0 : Option Addr) (c : Nat) (x : Int) (w : World) (hr : Kd.C (Kd.int .i64) w A0 1 [x]) (hc : 1 ≤ c) :
  Calls Tryz.prog 67 #[.slice A0 1 c, .int .i64 6] w fun e w' => ∃ v : Value, e = .returned v ∧ Kd.R (Kd.int .i64) 3 w' w.heap.size (fun _ => True) v (List.replicate 6 x) ∧ Below w.heap.size w w' := by
 have HR := Lib.hid hr
 clear hr
 have hm := @Go.Proofs.YtpkhgapifnjbeaaGreatDoor.K.lf_.calls 1 6 0 6
 have HM := Lib.hid hm
 clear hm
 go_enter Tryz.func67, Tryz.ntmps67
 go_wp2_with (first | ((with_reducible refine ia_ (f := 71) rfl ?_); refine gc_ (some 18) rfl rfl Tryz.func71 Qb rfl #[.int .u64 1, .int .u64 6] rfl Xv ?_; (with_reducible refine (HM.out _ (by decide +kernel)).mono ?_); rintro e w' ⟨rfl, ⟨nd, rfl⟩⟩; refine ⟨_, rfl, ?_⟩) | ((with_reducible refine md_ (N := 30) rfl ?_); refine Kd.oo_ (Kd.int .i64) w.heap.size 3 rfl (N := 30) rfl 22 _ _ rfl (6 : Int) rfl rfl Tryz.underlying22 (.int .i64 0) 8 Qb rfl Qh Qa 0 (ok := fun _ => True) (okp := fun _ => True) rfl (fun _ hk => hk) trivial Qa Qa (aa_ (Below.refl _ _) nd) (Nat.le_refl _) ?_; intro v1 w1 ho hb hg_ hnew_; clear hg_ hnew_; have HO := Lib.hid ho; have HB := Lib.hid hb; clear ho hb) | ((with_reducible refine md_ (N := 33) rfl ?_); refine Kd.jf1_ (0 : Int) w.heap.size rfl _ _ 22 22 3 rfl Tryz.underlying22 Qb v1 _ [x] A0 1 c (fun _ => True) rfl rfl HO.out (Kd.oe_ HR.out HB.out) HB.out (za_ HB.out) ?_; intro w2 ho hb hg_; clear hg_; clear HB HO; have HB := Lib.hid hb; have HO := Lib.hid ho; clear ho hb))
 have ho := HO.out
 rw [show (Int.toNat 6) = 6 from rfl] at ho
 replace ho : Kd.R (Kd.int .i64) 3 w2 w.heap.size (fun _ => True) v1 [x, 0, 0, 0, 0, 0] := ho
 have hown := Kd.jl_ ho
 rcases hown.2 with ⟨_, hx0⟩ | ⟨g, cap, cur, hv, hgb, hg, hnc, hcm, hcs, htake⟩
 ·simp at hx0
 subst hv
 have HGb := Lib.hid hgb
 have HX := Lib.hid hcm
 have hcap0 : 6 ≤ cap := hnc
 have HC := Lib.hid (show ∃ cur : List Value, Hid (w2.heap[g]? = some (.cells cur.toArray 3 (0, 0))) ∧ Hid (cur.take 6 = repL x 1 ∧ cur.length = cap) from ⟨cur.toList, Lib.hid (by simpa using hg), Lib.hid ⟨by first | exact htake | (rw [htake]; rfl), by first | omega | (simp; omega)⟩⟩)
 clear ho HO hown hgb hg hnc hcm hcs htake
 go_loopw [8] (fun v wr => ∃ k : Nat, (k = 1 ∨ k = 2 ∨ k = 4 ∨ k = 6) ∧ v = .int .i64 k ∧ Hid (∃ cur : List Value, Hid (wr.heap[g]? = some (.cells cur.toArray 3 (0, 0))) ∧ Hid (cur.take 6 = repL x k ∧ cur.length = cap)) ∧ Hid (Below w.heap.size w wr)) (fun v _ => 6 - (intOf v).toNat)
 case atStart => exact ⟨1, Qh, rfl, HC, HB⟩
 case round =>
  clear HC HB
  obtain ⟨k, hk, rfl, HC, HB⟩ := hrel
  obtain ⟨w3, rfl⟩ : ∃ x : World, x = wr := ⟨_, rfl⟩
  rcases hk with rfl | rfl | rfl | rfl
  ·obtain ⟨cur, HG, HL⟩ := HC.out
   have hcap1 := eq_true (show (1 : Int) ≤ (cap : Int) from by omega)
   have hcap2 := eq_false (show ¬ cap = 1 from by omega)
   go_wp2
   refine kh_ (n := 10) (S := fun w' => True) (ds := []) Yw Qb rfl rfl (trivial) (fun hHeld => ?_)
   have HD := Lib.hid (ca_ HB.out)
   refine oc_ (i := 0) (N := some 38) (v := ?_) (a' := ?_) Yx rfl rfl Qb Qd (Or.inl ⟨by rfl, ?_⟩) ?_ ?_
   rotate_left
   ·exact Qf
   rotate_left
   ·exact Qc
   refine oc_ (i := 1) (N := some 39) (v := ?_) (a' := ?_) Yy rfl rfl Qb Qd (Or.inl ⟨by rfl, ?_⟩) ?_ ?_
   rotate_left
   ·exact Qf
   rotate_left
   ·exact Qc
   refine oc_ (i := 2) (N := some 40) (v := ?_) (a' := ?_) Yz rfl rfl Qb Qd (Or.inl ⟨by rfl, ?_⟩) ?_ ?_
   rotate_left
   ·exact Qf
   rotate_left
   ·exact Qc
   refine oc_ (i := 3) (N := some 41) (v := ?_) (a' := ?_) Y0 rfl rfl Qb Qd (Or.inl ⟨by rfl, ?_⟩) ?_ ?_
   rotate_left
   ·exact Qf
   rotate_left
   ·exact Qc
   refine oc_ (i := 4) (N := some 42) (v := ?_) (a' := ?_) Y1 rfl rfl Qb Qd (Or.inl ⟨by rfl, ?_⟩) ?_ ?_
   rotate_left
   ·exact Qf
   rotate_left
   ·exact Qc
   refine oc_ (i := 5) (N := some 43) (v := ?_) (a' := ?_) Y2 rfl rfl Qb Qd (Or.inl ⟨by rfl, ?_⟩) ?_ ?_
   rotate_left
   ·exact Qf
   rotate_left
   ·exact Qc
   refine oc_ (i := 6) (N := some 44) (v := ?_) (a' := ?_) Y3 rfl rfl Qb Qd (Or.inl ⟨by rfl, ?_⟩) ?_ ?_
   rotate_left
   ·exact Qf
   rotate_left
   ·exact Qc
   refine one_ (i := 7) (N := some 45) Y4 rfl rfl Qb Qh (fun K hK => ?_)
   refine step_copy_splice rfl (.tmp 41) (.tmp 44) 22 22 rfl 3 Tryz.underlying22 Qb (some ⟨g, 1, none⟩) (some ⟨g, 0, none⟩) _ _ _ _ rfl rfl g 1 cur 3 HG.out (List.replicate 1 (.int .i64 x)) (by rw [List.length_replicate]; rfl) (fun _ => ⟨rfl, _, rfl, nw_ HG.out HL.out 1 Qh⟩) X1 (mw_ x 1) w.heap.size w HD.out HGb.out ?_
   intro w4 hg4 hb4
   refine hK.out _ _ (trivial) (fun hHeld => ?_)
   clear hK K
   refine kk_ (a' := ?_) ?_ ?_
   rotate_left
   ·exact Yt
   refine oc_ (i := 8) (N := some 46) (v := ?_) (a' := ?_) Y5 rfl rfl Qb Qd (Or.inl ⟨by rfl, ?_⟩) ?_ ?_
   rotate_left
   ·exact Qf
   rotate_left
   ·exact Qc
   refine oc_ (i := 9) (N := some 8) (v := ?_) (a' := ?_) Y6 rfl rfl Qb Qd (Or.inl ⟨by rfl, ?_⟩) ?_ ?_
   rotate_left
   ·exact Qf
   rotate_left
   ·exact Qc
   refine jk_ Qb ?_
   have HB4 := Lib.hid hb4
   have HC4 := Lib.hid (show ∃ cur : List Value, Hid (w4.heap[g]? = some (.cells cur.toArray 3 (0, 0))) ∧ Hid (cur.take 6 = repL x 2 ∧ cur.length = cap) from ⟨_, hg4, Lib.hid ⟨hc1_ HL.out.1, by rw [length_splice _ _ _ X1]; exact HL.out.2⟩⟩)
   clear hb4 hg4
   go_wp2
   go_roundw
   case rel => exact ⟨2, Qh, by first | rfl | go_num | (simp [wrap64]; done), HC4, HB4⟩
   case measure => simp [intOf, wrap64]
  ·obtain ⟨cur, HG, HL⟩ := HC.out
   have hcap1 := eq_true (show (2 : Int) ≤ (cap : Int) from by omega)
   have hcap2 := eq_false (show ¬ cap = 2 from by omega)
   go_wp2
   refine kh_ (n := 10) (S := fun w' => True) (ds := []) Yw Qb rfl rfl (trivial) (fun hHeld => ?_)
   have HD := Lib.hid (ca_ HB.out)
   refine oc_ (i := 0) (N := some 38) (v := ?_) (a' := ?_) Yx rfl rfl Qb Qd (Or.inl ⟨by rfl, ?_⟩) ?_ ?_
   rotate_left
   ·exact Qf
   rotate_left
   ·exact Qc
   refine oc_ (i := 1) (N := some 39) (v := ?_) (a' := ?_) Yy rfl rfl Qb Qd (Or.inl ⟨by rfl, ?_⟩) ?_ ?_
   rotate_left
   ·exact Qf
   rotate_left
   ·exact Qc
   refine oc_ (i := 2) (N := some 40) (v := ?_) (a' := ?_) Yz rfl rfl Qb Qd (Or.inl ⟨by rfl, ?_⟩) ?_ ?_
   rotate_left
   ·exact Qf
   rotate_left
   ·exact Qc
   refine oc_ (i := 3) (N := some 41) (v := ?_) (a' := ?_) Y0 rfl rfl Qb Qd (Or.inl ⟨by rfl, ?_⟩) ?_ ?_
   rotate_left
   ·exact Qf
   rotate_left
   ·exact Qc
   refine oc_ (i := 4) (N := some 42) (v := ?_) (a' := ?_) Y1 rfl rfl Qb Qd (Or.inl ⟨by rfl, ?_⟩) ?_ ?_
   rotate_left
   ·exact Qf
   rotate_left
   ·exact Qc
   refine oc_ (i := 5) (N := some 43) (v := ?_) (a' := ?_) Y2 rfl rfl Qb Qd (Or.inl ⟨by rfl, ?_⟩) ?_ ?_
   rotate_left
   ·exact Qf
   rotate_left
   ·exact Qc
   refine oc_ (i := 6) (N := some 44) (v := ?_) (a' := ?_) Y3 rfl rfl Qb Qd (Or.inl ⟨by rfl, ?_⟩) ?_ ?_
   rotate_left
   ·exact Qf
   rotate_left
   ·exact Qc
   refine one_ (i := 7) (N := some 45) Y4 rfl rfl Qb Qh (fun K hK => ?_)
   refine step_copy_splice rfl (.tmp 41) (.tmp 44) 22 22 rfl 3 Tryz.underlying22 Qb (some ⟨g, 2, none⟩) (some ⟨g, 0, none⟩) _ _ _ _ rfl rfl g 2 cur 3 HG.out (List.replicate 2 (.int .i64 x)) (by rw [List.length_replicate]; rfl) (fun _ => ⟨rfl, _, rfl, nw_ HG.out HL.out 2 Qh⟩) X1 (mw_ x 2) w.heap.size w HD.out HGb.out ?_
   intro w4 hg4 hb4
   refine hK.out _ _ (trivial) (fun hHeld => ?_)
   clear hK K
   refine kk_ (a' := ?_) ?_ ?_
   rotate_left
   ·exact Yt
   refine oc_ (i := 8) (N := some 46) (v := ?_) (a' := ?_) Y5 rfl rfl Qb Qd (Or.inl ⟨by rfl, ?_⟩) ?_ ?_
   rotate_left
   ·exact Qf
   rotate_left
   ·exact Qc
   refine oc_ (i := 9) (N := some 8) (v := ?_) (a' := ?_) Y6 rfl rfl Qb Qd (Or.inl ⟨by rfl, ?_⟩) ?_ ?_
   rotate_left
   ·exact Qf
   rotate_left
   ·exact Qc
   refine jk_ Qb ?_
   have HB4 := Lib.hid hb4
   have HC4 := Lib.hid (show ∃ cur : List Value, Hid (w4.heap[g]? = some (.cells cur.toArray 3 (0, 0))) ∧ Hid (cur.take 6 = repL x 4 ∧ cur.length = cap) from ⟨_, hg4, Lib.hid ⟨ic1_ HL.out.1, by rw [length_splice _ _ _ X1]; exact HL.out.2⟩⟩)
   clear hb4 hg4
   go_wp2
   go_roundw
   case rel => exact ⟨4, Qh, by first | rfl | go_num | (simp [wrap64]; done), HC4, HB4⟩
   case measure => simp [intOf, wrap64]
  ·obtain ⟨cur, HG, HL⟩ := HC.out
   have hcap1 := eq_true (show (4 : Int) ≤ (cap : Int) from by omega)
   have hcap2 := eq_false (show ¬ cap = 4 from by omega)
   go_wp2
   refine kh_ (n := 10) (S := fun w' => True) (ds := []) Yw Qb rfl rfl (trivial) (fun hHeld => ?_)
   have HD := Lib.hid (ca_ HB.out)
   refine oc_ (i := 0) (N := some 38) (v := ?_) (a' := ?_) Yx rfl rfl Qb Qd (Or.inl ⟨by rfl, ?_⟩) ?_ ?_
   rotate_left
   ·exact Qf
   rotate_left
   ·exact Qc
   refine oc_ (i := 1) (N := some 39) (v := ?_) (a' := ?_) Yy rfl rfl Qb Qd (Or.inl ⟨by rfl, ?_⟩) ?_ ?_
   rotate_left
   ·exact Qf
   rotate_left
   ·exact Qc
   refine oc_ (i := 2) (N := some 40) (v := ?_) (a' := ?_) Yz rfl rfl Qb Qd (Or.inl ⟨by rfl, ?_⟩) ?_ ?_
   rotate_left
   ·exact Qf
   rotate_left
   ·exact Qc
   refine oc_ (i := 3) (N := some 41) (v := ?_) (a' := ?_) Y0 rfl rfl Qb Qd (Or.inl ⟨by rfl, ?_⟩) ?_ ?_
   rotate_left
   ·exact Qf
   rotate_left
   ·exact Qc
   refine oc_ (i := 4) (N := some 42) (v := ?_) (a' := ?_) Y1 rfl rfl Qb Qd (Or.inl ⟨by rfl, ?_⟩) ?_ ?_
   rotate_left
   ·exact Qf
   rotate_left
   ·exact Qc
   refine oc_ (i := 5) (N := some 43) (v := ?_) (a' := ?_) Y2 rfl rfl Qb Qd (Or.inl ⟨by rfl, ?_⟩) ?_ ?_
   rotate_left
   ·exact Qf
   rotate_left
   ·exact Qc
   refine oc_ (i := 6) (N := some 44) (v := ?_) (a' := ?_) Y3 rfl rfl Qb Qd (Or.inl ⟨by rfl, ?_⟩) ?_ ?_
   rotate_left
   ·exact Qf
   rotate_left
   ·exact Qc
   refine one_ (i := 7) (N := some 45) Y4 rfl rfl Qb Qh (fun K hK => ?_)
   refine step_copy_splice rfl (.tmp 41) (.tmp 44) 22 22 rfl 3 Tryz.underlying22 Qb (some ⟨g, 4, none⟩) (some ⟨g, 0, none⟩) _ _ _ _ rfl rfl g 4 cur 3 HG.out (List.replicate 2 (.int .i64 x)) (by rw [List.length_replicate]; rfl) (fun _ => ⟨rfl, _, rfl, nw_ HG.out HL.out 2 Qh⟩) X1 (mw_ x 2) w.heap.size w HD.out HGb.out ?_
   intro w4 hg4 hb4
   refine hK.out _ _ (trivial) (fun hHeld => ?_)
   clear hK K
   refine kk_ (a' := ?_) ?_ ?_
   rotate_left
   ·exact Yt
   refine oc_ (i := 8) (N := some 46) (v := ?_) (a' := ?_) Y5 rfl rfl Qb Qd (Or.inl ⟨by rfl, ?_⟩) ?_ ?_
   rotate_left
   ·exact Qf
   rotate_left
   ·exact Qc
   refine oc_ (i := 9) (N := some 8) (v := ?_) (a' := ?_) Y6 rfl rfl Qb Qd (Or.inl ⟨by rfl, ?_⟩) ?_ ?_
   rotate_left
   ·exact Qf
   rotate_left
   ·exact Qc
   refine jk_ Qb ?_
   have HB4 := Lib.hid hb4
   have HC4 := Lib.hid (show ∃ cur : List Value, Hid (w4.heap[g]? = some (.cells cur.toArray 3 (0, 0))) ∧ Hid (cur.take 6 = repL x 6 ∧ cur.length = cap) from ⟨_, hg4, Lib.hid ⟨jc1_ HL.out.1, by rw [length_splice _ _ _ X1]; exact HL.out.2⟩⟩)
   clear hb4 hg4
   go_wp2
   go_roundw
   case rel => exact ⟨6, Qh, by first | rfl | go_num | (simp [wrap64]; done), HC4, HB4⟩
   case measure => simp [intOf, wrap64]
  obtain ⟨cur, HG, HL⟩ := HC.out
  go_wp2
  go_ret
  exact ⟨_, rfl, pz_ HG.out HL.out hcap0 HX.out HGb.out, HB.out⟩
end Go.Proofs.YtpkhgapifnjbeaaGreatDoor.G
end
section
namespace Go.Proofs.YtpkhgapifnjbeaaGreatDoor.G
open RowKit Zw.PrintWords Zw.PrintLast Zw.PrintMore Rs
def gj_.f (l ps : List Int) : Option (List Int) := Go.Proofs.YtpkhgapifnjbeaaGreatDoor.F.fc_.f 400 l ps
theorem gj_.ma1_ (A0 : Option Addr) (c0 : Nat) (l0 : List Int) (A1 : Option Addr) (c1 : Nat) (l1 : List Int) (r : List Int) (w : World) (hr0 : Kd.C (Kd.int .i64) w A0 l0.length l0) (hc0 : l0.length ≤ c0) (hr1 : Kd.C (Kd.int .i64) w A1 l1.length l1) (hc1 : l1.length ≤ c1) (h : gj_.f l0 l1 = some r) :
  Calls Tryz.prog 69 #[.slice A0 l0.length c0, .slice A1 l1.length c1] w fun e w' => ∃ v0_ : Value, e = .returned (v0_) ∧ Kd.R (Kd.int .i64) 3 w' w.heap.size (fun _ => True) v0_ r ∧ Below w.heap.size w w' ∧ (l0 ≠ [] → r = [] → v0_ = .slice none 0 0) :=
 Go.Proofs.YtpkhgapifnjbeaaGreatDoor.F.fc_.calls 400 A0 c0 l0 A1 c1 l1 r w hr0 hc0 hr1 hc1 h
theorem gj_.calls (A0 : Option Addr) (c0 : Nat) (l0 : List Int) (A1 : Option Addr) (c1 : Nat) (l1 : List Int) (r : List Int) (w : World) (hr0 : Kd.C (Kd.int .i64) w A0 l0.length l0) (hc0 : l0.length ≤ c0) (hr1 : Kd.C (Kd.int .i64) w A1 l1.length l1) (hc1 : l1.length ≤ c1) (h : gj_.f l0 l1 = some r) :
  Calls Tryz.prog 69 #[.slice A0 l0.length c0, .slice A1 l1.length c1] w fun e w' => ∃ v0_ : Value, e = .returned (v0_) ∧ Kd.R (Kd.int .i64) 3 w' w.heap.size (fun _ => True) v0_ r ∧ Below w.heap.size w w' :=
 (gj_.ma1_ A0 c0 l0 A1 c1 l1 r w hr0 hc0 hr1 hc1 h).mono fun e w' ⟨v, h1, h2, h3, _⟩ => ⟨v, h1, h2, h3⟩
def yv_.f (l ps : List Int) (n : Int) : Option (List Int × Bool) := Go.Proofs.YtpkhgapifnjbeaaGreatDoor.L.ga_.f 2000 l ps n
theorem yv_.calls (A0 : Option Addr) (c0 : Nat) (l0 : List Int) (A1 : Option Addr) (c1 : Nat) (l1 : List Int) (a2 : Int) (r1 : List Int) (r2 : Bool) (w : World) (hr0 : Kd.C (Kd.int .i64) w A0 l0.length l0) (hc0 : l0.length ≤ c0) (hr1 : Kd.C (Kd.int .i64) w A1 l1.length l1) (hc1 : l1.length ≤ c1) (h : yv_.f l0 l1 a2 = some (r1, r2)) :
  Calls Tryz.prog 81 #[.slice A0 l0.length c0, .slice A1 l1.length c1, .int .i64 a2] w fun e w' => ∃ v0_ : Value, e = .returned (.tuple #[v0_, .bool r2]) ∧ Kd.R (Kd.int .i64) 3 w' w.heap.size (fun _ => True) v0_ r1 ∧ Below w.heap.size w w' :=
 Go.Proofs.YtpkhgapifnjbeaaGreatDoor.L.ga_.calls 2000 A0 c0 l0 A1 c1 l1 a2 r1 r2 w hr0 hc0 hr1 hc1 h
def tk_.f (l ps : List Int) : Option (List Int × Bool) := Go.Proofs.YtpkhgapifnjbeaaGreatDoor.R.ra_.f 400 l ps
theorem tk_.calls (A0 : Option Addr) (c0 : Nat) (l0 : List Int) (A1 : Option Addr) (c1 : Nat) (l1 : List Int) (r1 : List Int) (r2 : Bool) (w : World) (hr0 : Kd.C (Kd.int .i64) w A0 l0.length l0) (hc0 : l0.length ≤ c0) (hr1 : Kd.C (Kd.int .i64) w A1 l1.length l1) (hc1 : l1.length ≤ c1) (h : tk_.f l0 l1 = some (r1, r2)) :
  Calls Tryz.prog 85 #[.slice A0 l0.length c0, .slice A1 l1.length c1] w fun e w' => ∃ v0_ : Value, e = .returned (.tuple #[v0_, .bool r2]) ∧ Kd.R (Kd.int .i64) 3 w' w.heap.size (fun _ => True) v0_ r1 ∧ Below w.heap.size w w' :=
 Go.Proofs.YtpkhgapifnjbeaaGreatDoor.R.ra_.calls 400 A0 c0 l0 A1 c1 l1 r1 r2 w hr0 hc0 hr1 hc1 h
theorem sl_ (A0 : Option Addr) (c0 : Nat) (l0 : List Int) (A1 : Option Addr) (c1 : Nat) (l1 : List Int) (w : World)
  (hr0 : Kd.C (Kd.int .i64) w A0 l0.length l0) (hc0 : l0.length ≤ c0) (hr1 : Kd.C (Kd.int .i64) w A1 l1.length l1) (hc1 : l1.length ≤ c1) (hl : l0.length + l1.length ≤ 500) :
  Calls Tryz.prog 66 #[.slice (some ⟨w.heap.size, 0, none⟩) 2 2] (w.alloc (.cells #[.slice A0 l0.length c0, .slice A1 l1.length c1] 22)) fun e w' => ∃ v : Value, e = .returned v ∧ Kd.R (Kd.int .i64) 3 w' w.heap.size (fun _ => True) v (l0 ++ l1) ∧ Below w.heap.size w w' := by
 have hb := da_ (Below.refl w.heap.size w) (.cells #[.slice A0 l0.length c0, .slice A1 l1.length c1] 22)
 have hg := heap_alloc_new w (.cells #[.slice A0 l0.length c0, .slice A1 l1.length c1] 22)
 refine (ov_ w.heap.size 2 A0 c0 l0 A1 c1 l1 _ ?_ ?_ (Kd.oe_ hr0 hb) hc0 (Kd.oe_ hr1 hb) hc1 Qa Qa).mono ?_
 ·rw [cell_of_row _ _ 0 _ _ (0, 0) hg]; rfl
 ·rw [cell_of_row _ _ 1 _ _ (0, 0) hg]; rfl
 rintro e w' ⟨v, he, hR, hB⟩
 exact ⟨v, he, Kd.td_ hR (za_ hb), wa_ hb hB⟩
def tt_.f (l : List Int) : Option (List Int) := if l.length ≤ 400 then some (l ++ List.replicate 6 (-1)) else none
theorem tt_.some {l t : List Int} (h : tt_.f l = some t) : t = l ++ List.replicate 6 (-1) ∧ l.length ≤ 400 := by
 unfold tt_.f at h
 by_cases hl : l.length ≤ 400
 ·exact Yr
 ·exact Xm
def ip_.f (a b : List Int) : Option (List Int) := if a.length + b.length ≤ 400 then some (a ++ b) else none
theorem ip_.some {a b t : List Int} (h : ip_.f a b = some t) : t = a ++ b ∧ a.length + b.length ≤ 400 := by
 unfold ip_.f at h
 by_cases hl : a.length + b.length ≤ 400
 ·exact Yr
 ·exact Xm
theorem wy_ {e base n c : Nat} {ok : Nat → Prop} {w : World} {A : Option Addr} {xs : List Int} (h : Kd.R (Kd.int .i64) e w base ok (.slice A n c) xs) (hn : 0 < xs.length) : ∃ g, A = some g := by
 obtain ⟨g, cap, he, _⟩ := Kd.mi_ h hn
 injection he with h1 _ _
 exact ⟨_, h1⟩
theorem oi1_ {l : List Int} {a : Int} (h : yg_.f l a = some true) : l ≠ [] := by
 rintro rfl
 unfold yg_.f at h
 simp at h
end Go.Proofs.YtpkhgapifnjbeaaGreatDoor.G
end
section
namespace Go.Proofs.YtpkhgapifnjbeaaGreatDoor.G
open RowKit Rs
theorem vand (n : Nat) : ∀ (x y : Nat → GF) (s : Nat), (∀ i, i < n → x i ≠ 0) → (∀ i j, i < n → j < n → x i = x j → i = j) → (∀ j, j < n → gsum n (fun i => y i * GF.pw (x i) (s + j)) = 0) → ∀ i, i < n → y i = 0 := by
 induction n with
 | zero => intro x y s _ _ _ i hi; omega
 | succ n ih =>
  intro x y s h0 hd he
  have key : ∀ i, i < n → y i * (x i + x n) = 0 := by
   refine ih x (fun i => y i * (x i + x n)) s (fun i hi => h0 i Qa) (fun i j hi hj => hd i j Qa Qa) fun j hj => ?_
   have e1 := he (j + 1) Qa
   have e0 := he j Qa
   simp only [gsum] at e1 e0
   have hF : gsum n (fun i => y i * (x i + x n) * GF.pw (x i) (s + j)) = gsum n (fun i => y i * GF.pw (x i) (s + (j + 1))) + x n * gsum n (fun i => y i * GF.pw (x i) (s + j)) := by
    rw [← gh_, ← xj_]
    refine fd_ fun i hi => ?_
    rw [show s + (j + 1) = (s + j) + 1 from rfl]
    show y i * (x i + x n) * GF.pw (x i) (s + j) = y i * (GF.pw (x i) (s + j) * x i) + x n * (y i * GF.pw (x i) (s + j))
    rw [GF.mul_add, GF.add_mul]
    congr 1 <;> ac_rfl
   have hn : y n * GF.pw (x n) (s + (j + 1)) = x n * (y n * GF.pw (x n) (s + j)) := by
    show y n * (GF.pw (x n) (s + j) * x n) = _
    ac_rfl
   have e1' := GF.di_ e1
   have e0' := GF.di_ e0
   show gsum n (fun i => y i * (x i + x n) * GF.pw (x i) (s + j)) = 0
   rw [hF, e1', e0', hn, GF.bh_]
  have hz : ∀ i, i < n → y i = 0 := fun i hi => (GF.mul_eq_zero _ _ (key i hi)).elim id fun h => absurd (hd i n Qa Qa (GF.di_ h)) Qa
  intro i hi
  rcases Nat.lt_or_ge i n with h | h
  ·exact hz i h
  obtain rfl : i = n := by omega
  have e0 := he 0 Qa
  simp only [gsum] at e0
  rw [fd_ (g := fun _ => 0) (fun k hk => by rw [hz k hk, GF.zero_mul]), fi_, GF.zero_add] at e0
  exact (GF.mul_eq_zero _ _ e0).elim id fun h => absurd h (GF.dn_ (h0 i hi) _)
def ElM (R C : Nat) (M : Nat → Nat → Int) : Prop := ∀ i k, i < R → k < C → isEl (M i k) = true
def KerM (R C : Nat) (M : Nat → Nat → Int) (x : Nat → GF) : Prop := ∀ i, i < R → gsum C (fun k => toG (M i k) * x k) = 0
def dl (i k : Nat) : Int := if i = k then 1 else 0
def IdM (R c : Nat) (M : Nat → Nat → Int) : Prop := ∀ i k, i < R → k < c → M i k = dl i k
theorem gy_ {a b : Int} (ha : isEl a = true) (hb : isEl b = true) : toG (mulI a b) = toG a * toG b := by rw [ns_ ha hb, ug_]
theorem ef1_ {a b : Int} (ha : isEl a = true) (hb : isEl b = true) : toG (xorI a b) = toG a + toG b := by rw [uw_ ha hb, ug_]
theorem df1_ {a : Int} (ha : isEl a = true) : toG (invI a) = GF.inv (toG a) := by
 unfold invI; rw [if_pos ha, ug_]
theorem fq_ {a : Int} (ha : isEl a = true) : toG a = 0 ↔ a = 0 := by
 refine ⟨fun h => ?_, fun h => by rw [h]; rfl⟩
 rw [← xg_ ((ge_ a).1 ha).1 ((ge_ a).1 ha).2, h]; rfl
theorem jr_ (M : Nat → Nat → Int) (c R : Nat) : (pivot M c R = R ∧ ∀ i, c ≤ i → i < R → M i c = 0) ∨ (c ≤ pivot M c R ∧ pivot M c R < R ∧ M (pivot M c R) c ≠ 0) := by
 unfold pivot
 cases h : (List.range R).find? (fun i => decide (c ≤ i) && decide (M i c ≠ 0)) with
 | none =>
  refine .inl ⟨rfl, fun i h1 h2 => ?_⟩
  rw [List.find?_range_eq_none] at h
  have := h i h2
  simpa [h1] using this
 | some p =>
  rw [List.find?_range_eq_some] at h
  refine .inr ?_
  simp only [Bool.and_eq_true, decide_eq_true_eq, List.mem_range] at h
  exact ⟨h.1.1, h.2.1, h.1.2⟩
theorem ey_ {R : Nat} (M : Nat → Nat → Int) (a b : Nat) (ha : a < R) (hb : b < R) (i : Nat) (hi : i < R) : ∃ j, j < R ∧ dg_ M a b i = M j := by
 unfold dg_
 by_cases h1 : i = a
 ·exact ⟨b, hb, by rw [if_pos h1]⟩
 rw [if_neg h1]
 by_cases h2 : i = b
 ·exact ⟨a, ha, by rw [if_pos h2]⟩
 ·exact ⟨i, hi, by rw [if_neg h2]⟩
theorem ze1_ {R : Nat} (M : Nat → Nat → Int) (a b : Nat) (ha : a < R) (hb : b < R) (j : Nat) (hj : j < R) : ∃ i, i < R ∧ dg_ M a b i = M j := by
 by_cases h1 : j = a
 ·exact ⟨b, hb, by unfold dg_; by_cases h : b = a <;> simp [h1, h]⟩
 by_cases h2 : j = b
 ·exact ⟨a, ha, by simp [dg_, h2]⟩
 ·exact ⟨j, hj, by simp [dg_, h1, h2]⟩
section
variable {R C : Nat} {M : Nat → Nat → Int}
theorem ElM.swap (h : ElM R C M) {a b : Nat} (ha : a < R) (hb : b < R) : ElM R C (dg_ M a b) := fun i k hi hk => by
 obtain ⟨j, hj, e⟩ := ey_ M a b ha hb i hi
 rw [e]; exact h j k hj hk
theorem be1_ {a b : Nat} (ha : a < R) (hb : b < R) (x : Nat → GF) : KerM R C (dg_ M a b) x ↔ KerM R C M x := by
 refine ⟨fun h j hj => ?_, fun h i hi => ?_⟩
 ·obtain ⟨i, hi, e⟩ := ze1_ M a b ha hb j hj
  have := h i hi
  rwa [e] at this
 obtain ⟨j, hj, e⟩ := ey_ M a b ha hb i hi
 rw [e]; exact h j hj
theorem ElM.scale (h : ElM R C M) {c : Nat} {b : Int} : ElM R C (tj_ M c b) := fun i k hi hk => by
 unfold tj_; split
 ·exact rk_ _ _
 ·exact h i k hi hk
theorem ob1_ (h : ElM R C M) {c : Nat} {b : Int} (hb : isEl b = true) (hb0 : toG b ≠ 0) (x : Nat → GF) : KerM R C (tj_ M c b) x ↔ KerM R C M x := by
 have e : ∀ i, i < R → gsum C (fun k => toG (tj_ M c b i k) * x k) = (if i = c then toG b else 1) * gsum C (fun k => toG (M i k) * x k) := by
  intro i hi
  rw [← gh_]
  refine fd_ fun k hk => ?_
  unfold tj_
  by_cases hc : i = c
  ·rw [if_pos hc, if_pos hc, gy_ (h i k hi hk) hb]; ac_rfl
  ·rw [if_neg hc, if_neg hc, GF.one_mul]
 refine ⟨fun hk i hi => ?_, fun hk i hi => ?_⟩
 ·have := hk i hi
  rw [e i hi] at this
  refine (GF.mul_eq_zero _ _ this).elim (fun h1 => ?_) id
  by_cases hc : i = c
  ·rw [if_pos hc] at h1; exact absurd h1 hb0
  ·rw [if_neg hc] at h1; exact absurd h1 GF.one_ne_zero
 ·rw [e i hi, hk i hi, GF.mul_zero]
theorem qv_ (h : ElM R C M) {c : Nat} (hc : c < R) (hcC : c < C) (i k : Nat) (hi : i < R) (hk : k < C) : isEl (wm_ M c i k) = true ∧ toG (wm_ M c i k) = toG (M i k) + (if i = c then 0 else toG (M i c)) * toG (M c k) := by
 unfold wm_
 by_cases h1 : i ≠ c ∧ M i c ≠ 0
 ·rw [if_pos h1, if_neg h1.1]
  refine ⟨xt_ (h i k hi hk) (rk_ _ _), ?_⟩
  rw [ef1_ (h i k hi hk) (rk_ _ _), gy_ (h i c hi hcC) (h c k hc hk)]
 rw [if_neg h1]
 refine ⟨h i k hi hk, ?_⟩
 by_cases h2 : i = c
 ·rw [if_pos h2, GF.zero_mul, GF.add_zero]
 have h3 : M i c = 0 := Classical.byContradiction fun h3 => h1 ⟨h2, h3⟩
 rw [if_neg h2, h3, show toG 0 = 0 from rfl, GF.zero_mul, GF.add_zero]
theorem ae1_ (h : ElM R C M) {c : Nat} (hc : c < R) (hcC : c < C) (x : Nat → GF) : KerM R C (wm_ M c) x ↔ KerM R C M x := by
 have e : ∀ i, i < R → gsum C (fun k => toG (wm_ M c i k) * x k) = gsum C (fun k => toG (M i k) * x k) + (if i = c then 0 else toG (M i c)) * gsum C (fun k => toG (M c k) * x k) := by
  intro i hi
  rw [← gh_, ← xj_]
  refine fd_ fun k hk => ?_
  rw [(qv_ h hc hcC i k hi hk).2, GF.add_mul]
  congr 1
  ac_rfl
 refine ⟨fun hk => ?_, fun hk i hi => by rw [e i hi, hk i hi, hk c hc, GF.mul_zero, GF.add_zero]⟩
 have hc0 : gsum C (fun k => toG (M c k) * x k) = 0 := by
  have := hk c hc
  rwa [e c hc, if_pos rfl, GF.zero_mul, GF.add_zero] at this
 intro i hi
 have := hk i hi
 rwa [e i hi, hc0, GF.mul_zero, GF.add_zero] at this
theorem step_ok (h : ElM R C M) {c p : Nat} (hcp : c ≤ p) (hp : p < R) (hcC : c < C) (hz : M p c ≠ 0) (hI : IdM R c M) :
  ElM R C (rq_ M c p) ∧ (∀ x, KerM R C (rq_ M c p) x ↔ KerM R C M x) ∧ IdM R (c + 1) (rq_ M c p) := by
 have hcR : c < R := by omega
 have h1 := h.swap hcR hp
 obtain ⟨M1, hM1⟩ : ∃ M1, M1 = dg_ M c p := ⟨_, rfl⟩
 have hcc : M1 c c = M p c := by rw [hM1]; simp [dg_]
 have hk1 := be1_ (C := C) (M := M) hcR hp
 have hI1 : IdM R c M1 := by
  intro i k hi hk
  rw [hM1]
  unfold dg_ dl
  by_cases e1 : i = c
  ·rw [if_pos e1, hI p k hp hk]; unfold dl; rw [if_neg Qa, if_neg Qa]
  rw [if_neg e1]
  by_cases e2 : i = p
  ·rw [if_pos e2, hI c k hcR hk]; unfold dl; rw [if_neg Qa, if_neg Qa]
  ·rw [if_neg e2]; exact hI i k hi hk
 rw [← hM1] at h1 hk1
 have hb0 : toG (M1 c c) ≠ 0 := fun e => hz (by rw [← hcc]; exact (fq_ (h1 c c hcR hcC)).1 e)
 have hbe : isEl (invI (M1 c c)) = true := lb1_ _
 have hbi := df1_ (h1 c c hcR hcC)
 have hmi : toG (M1 c c) * toG (invI (M1 c c)) = 1 := by rw [hbi]; exact GF.vb1_ _ hb0
 have hb1 : toG (invI (M1 c c)) ≠ 0 := fun e => by rw [e, GF.mul_zero] at hmi; exact GF.one_ne_zero hmi.symm
 have h2 := h1.scale (c := c) (b := invI (M1 c c))
 have hk2 := ob1_ h1 (c := c) hbe hb1
 obtain ⟨M2, hM2⟩ : ∃ M2, M2 = tj_ M1 c (invI (M1 c c)) := ⟨_, rfl⟩
 have hI2 : IdM R c M2 ∧ M2 c c = 1 := by
  constructor
  ·intro i k hi hk
   rw [hM2]; unfold tj_
   by_cases e1 : i = c
   ·rw [if_pos e1, hI1 i k hi hk, e1]; unfold dl; rw [if_neg Qa, rj_]
   ·rw [if_neg e1]; exact hI1 i k hi hk
  rw [hM2]; unfold tj_
  rw [if_pos rfl, ns_ (h1 c c hcR hcC) hbe, hmi]; rfl
 rw [← hM2] at h2 hk2
 have hs : rq_ M c p = wm_ M2 c := by unfold rq_; rw [← hM1, ← hM2]
 rw [hs]
 refine ⟨fun i k hi hk => (qv_ h2 hcR hcC i k hi hk).1, fun x => (ae1_ h2 hcR hcC x).trans ((hk2 x).trans (hk1 x)), fun i k hi hk => ?_⟩
 have he := qv_ h2 hcR hcC i k hi Qa
 rcases Nat.lt_or_ge k c with hkc | hkc
 ·have : toG (M2 c k) = 0 := by rw [hI2.1 c k hcR hkc]; unfold dl; rw [if_neg Qa]; rfl
  rw [this, GF.mul_zero, GF.add_zero] at he
  have h3 := congrArg ofG he.2
  rwa [xg_ ((ge_ _).1 he.1).1 ((ge_ _).1 he.1).2, xg_ ((ge_ _).1 (h2 i k hi Qa)).1 ((ge_ _).1 (h2 i k hi Qa)).2, hI2.1 i k hi hkc] at h3
 obtain rfl : k = c := by omega
 rw [hI2.2] at he
 have h3 := congrArg ofG he.2
 rw [xg_ ((ge_ _).1 he.1).1 ((ge_ _).1 he.1).2] at h3
 rw [h3]
 unfold dl
 by_cases e1 : i = k
 ·rw [if_pos e1, if_pos e1, GF.zero_mul, GF.add_zero, e1, hI2.2]; rfl
 ·rw [if_neg e1, if_neg e1, show toG 1 = 1 from rfl, GF.mul_one, GF.bh_]; rfl
theorem gj_ok (h : ElM R C M) : ∀ (c : Nat) (M' : Nat → Nat → Int), c ≤ C → gjI R M c = some M' → ElM R C M' ∧ (∀ x, KerM R C M' x ↔ KerM R C M x) ∧ IdM R c M' ∧ c ≤ R := by
 intro c
 induction c with
 | zero =>
  intro M' _ e
  obtain rfl := Option.some.inj e
  exact ⟨h, fun _ => Iff.rfl, fun _ _ _ hk => absurd hk Qa, Nat.zero_le _⟩
 | succ c ih =>
  intro M' hc e
  unfold gjI at e
  cases h1 : gjI R M c with
  | none => rw [h1] at e; cases e
  | some M1 =>
   rw [h1] at e
   obtain ⟨a1, a2, a3, _⟩ := ih M1 Qa h1
   rcases jr_ M1 c R with ⟨hp, _⟩ | ⟨hp1, hp2, hp3⟩
   ·simp only [hp, if_true] at e; cases e
   simp only at e
   rw [if_neg Qa] at e
   obtain rfl := Option.some.inj e
   obtain ⟨b1, b2, b3⟩ := step_ok a1 hp1 hp2 Qa hp3 a3
   exact ⟨b1, fun x => (b2 x).trans (a2 x), b3, Qa⟩
theorem dh1_ (h : ElM R C M) : ∀ (n : Nat), n ≤ C → gjI R M n = none → ∃ x : Nat → GF, (∃ k, k < n ∧ x k ≠ 0) ∧ (∀ k, n ≤ k → x k = 0) ∧ KerM R C M x := by
 intro n
 induction n with
 | zero => intro _ e; cases e
 | succ c ih =>
  intro hc e
  unfold gjI at e
  cases h1 : gjI R M c with
  | none =>
   obtain ⟨x, ⟨k, hk, hk0⟩, hz, hK⟩ := ih Qa h1
   exact ⟨x, ⟨k, Qa, hk0⟩, fun k hk => hz k Qa, hK⟩
  | some M1 =>
   rw [h1] at e
   obtain ⟨a1, a2, a3, a4⟩ := gj_ok h c M1 Qa h1
   rcases jr_ M1 c R with ⟨hp, hz⟩ | ⟨hp1, hp2, hp3⟩
   ·refine ⟨fun k => if k < c then toG (M1 k c) else if k = c then 1 else 0, ⟨c, Qa, ?_⟩, fun k hk => ?_, (a2 _).1 fun i hi => ?_⟩
    ·simp [GF.one_ne_zero]
    ·simp only; rw [if_neg Qa, if_neg Qa]
    ·obtain ⟨f, hf⟩ : ∃ f : Nat → GF, f = fun k => toG (M1 i k) * (if k < c then toG (M1 k c) else if k = c then 1 else 0) := ⟨_, rfl⟩
     have hbig : ∀ d, c + 1 + d ≤ C → gsum (c + 1 + d) f = gsum (c + 1) f := by
      intro d
      induction d with
      | zero => intro _; rfl
      | succ d ihd =>
       intro hd
       show gsum (c + 1 + d) f + f (c + 1 + d) = _
       rw [ihd Qa, hf]
       simp only
       rw [if_neg Qa, if_neg Qa, GF.mul_zero, GF.add_zero]
     have hC := hbig (C - (c + 1)) Qa
     rw [show c + 1 + (C - (c + 1)) = C from by omega] at hC
     rw [← hf, hC]
     simp only [gsum]
     have hfc : f c = toG (M1 i c) := by rw [hf]; simp [GF.mul_one]
     have hlow : ∀ k, k < c → f k = if i = k then toG (M1 k c) else 0 := by
      intro k hk
      rw [hf]; simp only
      rw [a3 i k hi hk, if_pos hk]
      unfold dl
      by_cases e1 : i = k
      ·rw [if_pos e1, if_pos e1, show toG 1 = 1 from rfl, GF.one_mul]
      ·rw [if_neg e1, if_neg e1, show toG 0 = 0 from rfl, GF.zero_mul]
     rw [hfc]
     rcases Nat.lt_or_ge i c with hic | hic
     ·rw [yj_ c f i hic (fun k hk hne => by rw [hlow k hk, if_neg (fun q => hne q.symm)]), hlow i hic, if_pos rfl, GF.bh_]
     ·rw [fd_ (g := fun _ => 0) (fun k hk => by rw [hlow k hk, if_neg Qa]), fi_, hz i hic hi]; rfl
   simp only at e
   rw [if_neg Qa] at e
   cases e
end
end Go.Proofs.YtpkhgapifnjbeaaGreatDoor.G
end
section
namespace Go.Proofs.YtpkhgapifnjbeaaGreatDoor.G
open RowKit Zw.PrintWords Zw.PrintLast Zw.PrintMore Rs
def mf_ (n : Nat) (ps : List Int) : Prop := ps.length ≤ 6 ∧ (∀ k, k < ps.length → 0 ≤ ps.getD k 0 ∧ ps.getD k 0 < n)
def rowF (n : Nat) (ps : List Int) (j : Nat) : List Int := ps.map fun p => atI n p ((j + 1 : Nat) : Int)
def matFill (l ps : List Int) : Nat → List (List Int)
 | 0 => []
 | j + 1 => matFill l ps j ++ [rowF l.length ps j ++ [ofG (psum l (j + 1) l.length)]]
theorem te_ (l ps : List Int) (j : Nat) : (matFill l ps j).length = j := by
 induction j with
 | zero => rfl
 | succ j ih => simp [matFill, ih]
theorem zj_ (l ps : List Int) : ∀ (j x : Nat), x < j → (matFill l ps j).getD x [] = rowF l.length ps x ++ [ofG (psum l (x + 1) l.length)] := by
 intro j
 induction j with
 | zero => intro x hx; omega
 | succ j ih =>
  intro x hx
  simp only [matFill]
  rcases Nat.lt_or_ge x j with h | h
  ·rw [List.getD_eq_getElem?_getD, List.getElem?_append_left (by rw [te_]; exact h), ← List.getD_eq_getElem?_getD, ih x h]
  obtain rfl : x = j := by omega
  rw [List.getD_eq_getElem?_getD, List.getElem?_append_right (by rw [te_]; exact Nat.le_refl _), te_]
  simp
def ju_ (l ps ys : List Int) : Nat → List Int
 | 0 => l
 | i + 1 => (ju_ l ps ys i).set (ps.getD i 0).toNat (xorI (mx (l.getD (ps.getD i 0).toNat 0) 0) (ys.getD i 0))
theorem pn_ (l ps ys : List Int) (i : Nat) : (ju_ l ps ys i).length = l.length := by
 induction i with
 | zero => rfl
 | succ i ih => simp only [ju_, List.length_set, ih]
def fm_ (l ps : List Int) : List Int := if (solR 6 ps.length (rf_ (matFill l ps 6))).2 = true then ju_ l ps (solR 6 ps.length (rf_ (matFill l ps 6))).1 ps.length else []
section
open F
theorem tf1_ {l : List Int} {p : Int} (h : 0 ≤ p) : rd l p = l.getD p.toNat 0 := by
 obtain ⟨n, rfl⟩ : ∃ n : Nat, p = n := ⟨p.toNat, Qa⟩
 rw [ye_, Int.toNat_natCast]
theorem bh1_ (l ps ys : List Int) (hl : l.length ≤ 1000) (hp : mf_ l.length ps) (hy : ys.length = ps.length) : ∀ (d i k : Nat), i + d = ps.length → d < k → fc_.l2 k l ys (ju_ l ps ys i) ps (ps.length : Int) (i : Int) = some (ju_ l ps ys ps.length) := by
 intro d
 induction d with
 | zero =>
  intro i k hi hk
  obtain ⟨k, rfl⟩ : ∃ m, k = m + 1 := ⟨k - 1, Qa⟩
  simp only [fc_.l2]
  rw [if_neg Qa]
  obtain rfl : i = ps.length := by omega
  rfl
 | succ d ih =>
  intro i k hi hk
  obtain ⟨k, rfl⟩ : ∃ m, k = m + 1 := ⟨k - 1, Qa⟩
  have h6 := hp.1
  obtain ⟨hp0, hp1⟩ := hp.2 i Qa
  have hs : wrap64 ((i : Int) + 1) = ((i + 1 : Nat) : Int) := by unfold wrap64; omega
  simp only [fc_.l2]
  rw [if_pos Qa, if_pos Qa, if_pos Qa]
  rw [ye_ ps i, ye_ ys i, tf1_ hp0, hs]
  rw [if_pos hp0, if_pos Qa, if_pos Qa, if_pos (by rw [pn_]; omega)]
  exact ih (i + 1) k Qa Qa
theorem ah1_ (l ps : List Int) (x5 : List (List Int)) (syn : List Int) (s : Int) (j : Nat) (r : List Int) (K : Nat) (hj : j < 6) (h5 : x5.length < 1000) (hps : ps.length ≤ 6)
  (hc : ∀ k, K ≤ k → fc_.l0 k l ps (x5 ++ [rowF l.length ps j ++ [s]]) syn ((j + 1 : Nat) : Int) = some r) :
  ∀ (d i k : Nat), i + d = ps.length → K + d < k → fc_.l1 k l ps x5 (j : Int) s ((ps.take i).map fun p => atI l.length p ((j + 1 : Nat) : Int)) syn (j : Int) ps (ps.length : Int) (i : Int) = some r := by
 have hsj : wrap64 ((j : Int) + 1) = ((j + 1 : Nat) : Int) := by unfold wrap64; omega
 intro d
 induction d with
 | zero =>
  intro i k hi hk
  obtain ⟨k, rfl⟩ : ∃ m, k = m + 1 := ⟨k - 1, Qa⟩
  simp only [fc_.l1]
  rw [if_neg Qa, if_pos Yj, if_pos Qa, hsj, List.take_of_length_le Qa]
  exact hc k Qa
 | succ d ih =>
  intro i k hi hk
  obtain ⟨k, rfl⟩ : ∃ m, k = m + 1 := ⟨k - 1, Qa⟩
  have hs : wrap64 ((i : Int) + 1) = ((i + 1 : Nat) : Int) := by unfold wrap64; omega
  simp only [fc_.l1]
  rw [if_pos Qa, if_pos Qa, if_pos Qa]
  simp only [g_at.f, Option.bind_some]
  rw [if_pos Yj, hs, hsj, ye_]
  have := ih (i + 1) k Qa Qa
  rwa [List.take_add_one, List.getElem?_eq_getElem Qa, List.map_append, show (List.map (fun p => atI l.length p ((j + 1 : Nat) : Int)) (some (ps[i]'Qa)).toList) = [atI l.length (ps.getD i 0) ((j + 1 : Nat) : Int)] from by rw [List.getD_eq_getElem?_getD, List.getElem?_eq_getElem Qa]; rfl] at this
theorem ci1_ (l ps : List Int) (hps : ps.length ≤ 6) : pr_ (matFill l ps 6) ((matFill l ps 6).headD []).length = true := by
 have hrow : ∀ x ∈ matFill l ps 6, x.length = ps.length + 1 := by
  intro x hx
  obtain ⟨i, hi, rfl⟩ := List.mem_iff_getElem.1 hx
  have := zj_ l ps 6 i (by rwa [te_] at hi)
  rw [List.getD_eq_getElem?_getD, List.getElem?_eq_getElem hi] at this
  simp only [Option.getD_some] at this
  rw [this]; simp [rowF]
 have hh : ((matFill l ps 6).headD []).length = ps.length + 1 := by
  apply hrow
  rw [List.headD_eq_head?_getD, List.head?_eq_getElem?, List.getElem?_eq_getElem (by rw [te_]; omega)]
  exact List.getElem_mem _
 unfold pr_
 rw [hh, te_]
 simp only [Bool.and_eq_true, decide_eq_true_eq, List.all_eq_true]
 exact ⟨Qa, hrow⟩
theorem uz_ (l ps : List Int) (hps : ps.length ≤ 6) : xh_.f (matFill l ps 6) = some (solR 6 ps.length (rf_ (matFill l ps 6))) := by
 unfold xh_.f
 rw [if_pos (ci1_ l ps hps), te_]
 have hh : ((matFill l ps 6).headD []).length = ps.length + 1 := by
  have h0 := zj_ l ps 6 0 Qa
  rw [List.headD_eq_head?_getD, List.head?_eq_getElem?, ← List.getD_eq_getElem?_getD, h0]
  simp [rowF]
 rw [hh, Nat.add_sub_cancel]
theorem ws_ {R n : Nat} {M : Nat → Nat → Int} (h : (solR R n M).2 = true) : (solR R n M).1.length = n := by
 unfold solR at h ⊢
 cases hg : gjI R M n with
 | none => rw [hg] at h; cases h
 | some M' =>
  rw [hg] at h
  simp only at h ⊢
  split at h
  ·rw [if_pos (by assumption)]; simp
  ·cases h
theorem zg1_ (l ps : List Int) (hl : l.length ≤ 15) (hp : mf_ l.length ps) : ∀ (d j k : Nat), j + d = 6 → 20 + d * 10 < k → fc_.l0 k l ps (matFill l ps j) (synI l) (j : Int) = some (fm_ l ps) := by
 intro d
 induction d with
 | zero =>
  intro j k hj hk
  obtain ⟨k, rfl⟩ : ∃ m, k = m + 1 := ⟨k - 1, Qa⟩
  obtain rfl : j = 6 := by omega
  simp only [fc_.l0]
  rw [if_neg Qa, uz_ l ps hp.1]
  simp only [Option.bind_some]
  unfold fm_
  by_cases hs : (solR 6 ps.length (rf_ (matFill l ps 6))).2 = true
  rotate_left
  ·rw [if_neg hs, if_neg hs]
  rw [if_pos hs, if_pos hs]
  unfold wh_.f
  rw [if_pos Qa]
  simp only [Option.bind_some]
  have := hp.1
  exact bh1_ l ps _ Qa hp (ws_ hs) ps.length 0 k Qa Qa
 | succ d ih =>
  intro j k hj hk
  obtain ⟨k, rfl⟩ : ∃ m, k = m + 1 := ⟨k - 1, Qa⟩
  have hlen : (synI l).length = 6 := by simp [synI]
  simp only [fc_.l0]
  rw [if_pos Qa, if_pos Qa, if_pos Qa]
  have hs : rd (synI l) (j : Int) = ofG (psum l (j + 1) l.length) := by
   rw [ye_]
   unfold synI
   rw [List.getD_eq_getElem?_getD, List.getElem?_map, List.getElem?_range Qa]
   rfl
  have hp6 := hp.1
  have hrow := ah1_ l ps (matFill l ps j) (synI l) (ofG (psum l (j + 1) l.length)) j (fm_ l ps) (20 + d * 10 + 1) Qa (by rw [te_]; omega) hp6 (fun k hk => ih (j + 1) k Qa Qa) ps.length 0 k Qa Qa
  rw [hs]
  exact hrow
theorem fill_f (l ps : List Int) (hl : l.length ≤ 15) (hp : mf_ l.length ps) (k : Nat) (hk : 100 ≤ k) : fc_.f k l ps = some (fm_ l ps) := by
 unfold fc_.f ml_.f
 rw [if_pos hl]
 simp only [Option.bind_some]
 exact zg1_ l ps hl hp 6 0 k Qa Qa
theorem fp_ (l ps : List Int) (hl : l.length ≤ 15) (hp : mf_ l.length ps) : gj_.f l ps = some (fm_ l ps) := fill_f l ps hl hp 400 Qa
end
end Go.Proofs.YtpkhgapifnjbeaaGreatDoor.G
end
section
namespace Go.Proofs.YtpkhgapifnjbeaaGreatDoor.G
open RowKit Zw.PrintWords Zw.PrintLast Zw.PrintMore Rs
def zeroTo (l ps : List Int) : Nat → List Int
 | 0 => l
 | i + 1 => (zeroTo l ps i).set (ps.getD i 0).toNat 0
theorem qe_ (l ps : List Int) (i : Nat) : (zeroTo l ps i).length = l.length := by
 induction i with
 | zero => rfl
 | succ i ih => simp only [zeroTo, List.length_set, ih]
def fillS (l ps : List Int) : List Int × Bool :=
 match gjI 6 (rf_ (matFill (zeroTo l ps ps.length) ps 6)) ps.length with
 | none => ([], false)
 | some M => (tailTo ps M ps.length (zeroTo l ps ps.length), gf_ (tailTo ps M ps.length (zeroTo l ps ps.length)))
theorem qj_ (l ps : List Int) (hps : ps.length ≤ 6) (i k : Nat) (hi : i < 6) : rf_ (matFill l ps 6) i k = if k < ps.length then atI l.length (ps.getD k 0) ((i + 1 : Nat) : Int) else if k = ps.length then ofG (psum l (i + 1) l.length) else 0 := by
 unfold rf_
 rw [zj_ l ps 6 i hi]
 by_cases h1 : k < ps.length
 ·rw [if_pos h1, List.getD_eq_getElem?_getD, List.getElem?_append_left (by simpa [rowF] using h1)]
  unfold rowF
  rw [List.getElem?_map, List.getElem?_eq_getElem h1]
  rw [List.getD_eq_getElem?_getD, List.getElem?_eq_getElem h1]
  rfl
 rw [if_neg h1]
 by_cases h2 : k = ps.length
 ·rw [if_pos h2, List.getD_eq_getElem?_getD, List.getElem?_append_right (by simp [rowF]; omega)]
  simp [rowF, h2]
 ·rw [if_neg h2, List.getD_eq_getElem?_getD, List.getElem?_eq_none (by simp [rowF]; omega)]; rfl
theorem qx_ (n : Nat) (p j : Int) : isEl (atI n p j) = true := mb1_ _
theorem fs_ (l ps : List Int) (hps : ps.length ≤ 6) : ElM 6 (ps.length + 1) (rf_ (matFill l ps 6)) := by
 intro i k hi hk
 rw [qj_ l ps hps i k hi]
 split
 ·exact qx_ _ _ _
 split
 ·exact pg_ _
 ·rfl
section
open R
theorem ag1_ (n : Nat) (ps o : List Int) (x9 : List (List Int)) (s : Int) (j : Nat) (r : List Int × Bool) (K : Nat) (hj : j < 6) (h5 : x9.length < 1000) (hps : ps.length ≤ 6) (hs : iw_.f o ((j + 1 : Nat) : Int) = some s)
  (hc : ∀ k, K ≤ k → ra_.l1 k ps (n : Int) o (x9 ++ [rowF n ps j ++ [s]]) ((j + 2 : Nat) : Int) = some r) :
  ∀ (d i k : Nat), i + d = ps.length → K + d < k → ra_.l2 k ps (n : Int) o x9 ((j + 1 : Nat) : Int) ((ps.take i).map fun p => atI n p ((j + 1 : Nat) : Int)) (i : Int) = some r := by
 have hsj : wrap64 (((j + 1 : Nat) : Int) + 1) = ((j + 2 : Nat) : Int) := by unfold wrap64; omega
 intro d
 induction d with
 | zero =>
  intro i k hi hk
  obtain ⟨k, rfl⟩ : ∃ m, k = m + 1 := ⟨k - 1, Qa⟩
  simp only [ra_.l2]
  rw [if_neg Qa, hs]
  simp only [Option.bind_some]
  rw [if_pos Yj, if_pos Qa, hsj, List.take_of_length_le Qa]
  exact hc k Qa
 | succ d ih =>
  intro i k hi hk
  obtain ⟨k, rfl⟩ : ∃ m, k = m + 1 := ⟨k - 1, Qa⟩
  have hs : wrap64 ((i : Int) + 1) = ((i + 1 : Nat) : Int) := by unfold wrap64; omega
  simp only [ra_.l2]
  rw [if_pos Qa, if_pos Qa]
  simp only [cj_.f, Option.bind_some]
  rw [if_pos Yj, hs, ye_]
  have := ih (i + 1) k Qa Qa
  rwa [List.take_add_one, List.getElem?_eq_getElem Qa, List.map_append, show (List.map (fun p => atI n p ((j + 1 : Nat) : Int)) (some (ps[i]'Qa)).toList) = [atI n (ps.getD i 0) ((j + 1 : Nat) : Int)] from by rw [List.getD_eq_getElem?_getD, List.getElem?_eq_getElem Qa]; rfl] at this
theorem hi1_ (o ps : List Int) (h1 : 1 ≤ o.length) (hl : o.length ≤ 15) (hp : mf_ o.length ps) : dq_ o (matFill o ps 6) ps = true := by
 have h6 := hp.1
 unfold dq_
 simp only [Bool.and_eq_true, decide_eq_true_eq, List.all_eq_true, te_]
 refine ⟨⟨⟨by trivial, h6, h1, hl⟩, fun x hx => ?_⟩, fun x hx => ?_⟩
 ·obtain ⟨i, hi, rfl⟩ := List.mem_iff_getElem.1 hx
  have := hp.2 i hi
  rw [List.getD_eq_getElem?_getD, List.getElem?_eq_getElem hi] at this
  exact this
 obtain ⟨i, hi, rfl⟩ := List.mem_iff_getElem.1 hx
 have hi6 : i < 6 := by rwa [te_] at hi
 have hr := zj_ o ps 6 i hi6
 rw [List.getD_eq_getElem?_getD, List.getElem?_eq_getElem hi] at hr
 simp only [Option.getD_some] at hr
 rw [hr]
 refine ⟨by simp [rowF], fun y hy => ?_⟩
 rcases List.mem_append.1 hy with h | h
 ·obtain ⟨p, _, rfl⟩ := List.mem_map.1 h
  exact qx_ _ _ _
 ·rw [List.mem_singleton.1 h]; exact pg_ _
theorem tail_f (o ps : List Int) (h1 : 1 ≤ o.length) (hl : o.length ≤ 15) (hp : mf_ o.length ps) : ei_.f o (matFill o ps 6) ps = some (match gjI 6 (rf_ (matFill o ps 6)) ps.length with
  | none => ([], false)
  | some M => (tailTo ps M ps.length o, gf_ (tailTo ps M ps.length o))) := by
 unfold ei_.f
 rw [if_pos (hi1_ o ps h1 hl hp)]
 cases gjI 6 (rf_ (matFill o ps 6)) ps.length <;> rfl
theorem zf1_ (o ps : List Int) (h1 : 1 ≤ o.length) (hl : o.length ≤ 15) (hp : mf_ o.length ps) (he : uj_ o = true) : ∀ (d j k : Nat), j + d = 6 → d * 10 + 5 < k → ra_.l1 k ps (o.length : Int) o (matFill o ps j) ((j + 1 : Nat) : Int) = some (match gjI 6 (rf_ (matFill o ps 6)) ps.length with
  | none => ([], false)
  | some M => (tailTo ps M ps.length o, gf_ (tailTo ps M ps.length o))) := by
 intro d
 induction d with
 | zero =>
  intro j k hj hk
  obtain ⟨k, rfl⟩ : ∃ m, k = m + 1 := ⟨k - 1, Qa⟩
  obtain rfl : j = 6 := by omega
  simp only [ra_.l1]
  rw [if_neg Qa, tail_f o ps h1 hl hp]
  simp only [Option.bind_some]
 | succ d ih =>
  intro j k hj hk
  obtain ⟨k, rfl⟩ : ∃ m, k = m + 1 := ⟨k - 1, Qa⟩
  have h6 := hp.1
  simp only [ra_.l1]
  rw [if_pos Qa]
  refine ag1_ o.length ps o (matFill o ps j) (ofG (psum o (j + 1) o.length)) j _ (d * 10 + 6) Qa (by rw [te_]; omega) h6 ?_ (fun k hk => ih (j + 1) k Qa Qa) ps.length 0 k Qa Qa
  unfold iw_.f
  rw [if_pos ⟨he, Qa, Qa⟩]
  rfl
theorem yf1_ (l ps : List Int) (h1 : 1 ≤ l.length) (hl : l.length ≤ 15) (hp : mf_ l.length ps) (he : uj_ (zeroTo l ps ps.length) = true) : ∀ (d i k : Nat), i + d = ps.length → d + 70 < k → ra_.l0 k ps (l.length : Int) (zeroTo l ps i) (i : Int) = some (fillS l ps) := by
 intro d
 induction d with
 | zero =>
  intro i k hi hk
  obtain ⟨k, rfl⟩ : ∃ m, k = m + 1 := ⟨k - 1, Qa⟩
  obtain rfl : i = ps.length := by omega
  simp only [ra_.l0]
  rw [if_neg Qa]
  have := zf1_ (zeroTo l ps ps.length) ps (by rw [qe_]; exact h1) (by rw [qe_]; exact hl) (by rw [qe_]; exact hp) he 6 0 k Qa Qa
  rw [qe_] at this
  exact this
 | succ d ih =>
  intro i k hi hk
  obtain ⟨k, rfl⟩ : ∃ m, k = m + 1 := ⟨k - 1, Qa⟩
  obtain ⟨hp0, hp1⟩ := hp.2 i Qa
  have h6 := hp.1
  have hs : wrap64 ((i : Int) + 1) = ((i + 1 : Nat) : Int) := by unfold wrap64; omega
  simp only [ra_.l0]
  rw [if_pos Qa, if_pos Qa, ye_, if_pos hp0, if_pos (by rw [qe_]; exact hp1), hs]
  exact ih (i + 1) k Qa Qa
theorem Fill_f (l ps : List Int) (h1 : 1 ≤ l.length) (hl : l.length ≤ 15) (hp : mf_ l.length ps) (he : uj_ (zeroTo l ps ps.length) = true) (k : Nat) (hk : 100 ≤ k) : ra_.f k l ps = some (fillS l ps) := by
 have h6 := hp.1
 unfold ra_.f wh_.f
 rw [if_pos Qa]
 simp only [Option.bind_some]
 exact yf1_ l ps h1 hl hp he ps.length 0 k Qa Qa
theorem no_ (l ps : List Int) (h1 : 1 ≤ l.length) (hl : l.length ≤ 15) (hp : mf_ l.length ps) (he : uj_ (zeroTo l ps ps.length) = true) : tk_.f l ps = some (fillS l ps) := Fill_f l ps h1 hl hp he 400 Qa
end
end Go.Proofs.YtpkhgapifnjbeaaGreatDoor.G
end
section
namespace Go.Proofs.YtpkhgapifnjbeaaGreatDoor.G
open RowKit Rs
def SolM (R n : Nat) (M : Nat → Nat → Int) (y : Nat → GF) : Prop := ∀ i, i < R → gsum n (fun k => toG (M i k) * y k) = toG (M i n)
def Indep (R n : Nat) (M : Nat → Nat → Int) : Prop := ∀ y : Nat → GF, (∀ i, i < R → gsum n (fun k => toG (M i k) * y k) = 0) → ∀ k, k < n → y k = 0
theorem nb1_ {R n : Nat} {M : Nat → Nat → Int} (y : Nat → GF) : KerM R (n + 1) M (fun k => if k < n then y k else 1) ↔ SolM R n M y := by
 have e : ∀ i, gsum (n + 1) (fun k => toG (M i k) * (if k < n then y k else 1)) = gsum n (fun k => toG (M i k) * y k) + toG (M i n) := by
  intro i
  show gsum n _ + toG (M i n) * (if n < n then y n else 1) = _
  rw [if_neg Qa, GF.mul_one]
  congr 1
  exact fd_ fun k hk => by rw [if_pos hk]
 refine ⟨fun h i hi => GF.di_ (by rw [← e i]; exact h i hi), fun h i hi => by rw [e i, h i hi, GF.bh_]⟩
theorem of1_ {R n : Nat} {M : Nat → Nat → Int} (h : IdM R n M) (y : Nat → GF) (i : Nat) (hi : i < R) : gsum n (fun k => toG (M i k) * y k) = if i < n then y i else 0 := by
 have hlow : ∀ k, k < n → toG (M i k) * y k = if i = k then y k else 0 := by
  intro k hk
  rw [h i k hi hk]
  unfold dl
  by_cases e1 : i = k
  ·rw [if_pos e1, if_pos e1, show toG 1 = 1 from rfl, GF.one_mul]
  ·rw [if_neg e1, if_neg e1, show toG 0 = 0 from rfl, GF.zero_mul]
 by_cases hin : i < n
 ·rw [if_pos hin, yj_ n _ i hin (fun k hk hne => by rw [hlow k hk, if_neg (fun q => hne q.symm)]), hlow i hin, if_pos rfl]
 ·rw [if_neg hin, fd_ (g := fun _ => 0) (fun k hk => by rw [hlow k hk, if_neg Qa]), fi_]
theorem kp_ {R n : Nat} {M : Nat → Nat → Int} (he : ElM R (n + 1) M) (hi : Indep R n M) : ∃ M', gjI R M n = some M' ∧ ElM R (n + 1) M' ∧ IdM R n M' ∧ n ≤ R ∧ ∀ y, SolM R n M y ↔ ∀ i, i < R → (if i < n then y i else 0) = toG (M' i n) := by
 cases hg : gjI R M n with
 | none =>
  obtain ⟨x, ⟨k, hk, hk0⟩, hz, hK⟩ := dh1_ he n Qa hg
  refine absurd (hi x (fun i hi => ?_) k hk) hk0
  have := hK i hi
  simp only [gsum] at this
  rwa [hz n (Nat.le_refl _), GF.mul_zero, GF.add_zero] at this
 | some M' =>
  obtain ⟨a1, a2, a3, a4⟩ := gj_ok he n M' Qa hg
  refine ⟨M', rfl, a1, a3, a4, fun y => ?_⟩
  rw [← nb1_, ← a2, nb1_]
  refine ⟨fun h i hi => ?_, fun h i hi => ?_⟩
  ·rw [← of1_ a3 y i hi]; exact h i hi
  show gsum n _ = _
  rw [of1_ a3 y i hi]; exact h i hi
theorem gj_at {R n : Nat} {M M' : Nat → Nat → Int} (he : ElM R (n + 1) M') {y : Nat → GF} (h : ∀ i, i < R → (if i < n then y i else 0) = toG (M' i n)) (k : Nat) (hk : k < n) (hR : n ≤ R) : M' k n = ofG (y k) := by
 have := h k Qa
 rw [if_pos hk] at this
 rw [this, xg_ ((ge_ _).1 (he k n Qa Qa)).1 ((ge_ _).1 (he k n Qa Qa)).2]
theorem og_ (n k : Nat) (f : Nat → Int) (hk : k < n) : ((List.range n).map f).getD k 0 = f k := by
 rw [List.getD_eq_getElem?_getD, List.getElem?_map, List.getElem?_range hk]; rfl
theorem tr_ {R n : Nat} {M : Nat → Nat → Int} (he : ElM R (n + 1) M) (hi : Indep R n M) {y : Nat → GF} (hy : SolM R n M y) : (solR R n M).2 = true ∧ ∀ k, k < n → (solR R n M).1.getD k 0 = ofG (y k) := by
 obtain ⟨M', hg, a1, a3, a4, hs⟩ := kp_ he hi
 have h := (hs y).1 hy
 have hz : ∀ i, n ≤ i → i < R → M' i n = 0 := fun i h1 h2 => by
  have := h i h2
  rw [if_neg Qa] at this
  exact (fq_ (a1 i n h2 Qa)).1 this.symm
 rw [pm_ hg hz]
 exact ⟨rfl, fun k hk => by rw [og_ n k _ hk]; exact gj_at (M := M) a1 h k hk a4⟩
theorem we1_ {R n : Nat} {M : Nat → Nat → Int} (he : ElM R (n + 1) M) (hi : Indep R n M) (h2 : (solR R n M).2 = true) : SolM R n M (fun k => toG ((solR R n M).1.getD k 0)) ∧ ∀ k, k < n → isEl ((solR R n M).1.getD k 0) = true := by
 obtain ⟨M', hg, a1, a3, a4, hs⟩ := kp_ he hi
 by_cases hz : ∀ i, n ≤ i → i < R → M' i n = 0
 rotate_left
 ·have : ∃ i, n ≤ i ∧ i < R ∧ M' i n ≠ 0 := Classical.byContradiction fun hh => hz fun i h1 h2 => Classical.byContradiction fun h3 => hh ⟨i, h1, h2, h3⟩
  obtain ⟨i, h3, h4, h5⟩ := this
  rw [cy_ hg h4 h3 h5] at h2
  cases h2
 rw [pm_ hg hz]
 refine ⟨(hs _).2 fun i hi => ?_, fun k hk => by rw [og_ n k _ hk]; exact a1 k n Qa Qa⟩
 by_cases hin : i < n
 ·rw [if_pos hin]; simp only; rw [og_ n i _ hin]
 ·rw [if_neg hin, hz i Qa hi]; rfl
theorem qw_ {n : Nat} {M : Nat → Nat → Int} (he : ElM n (n + 1) M) (hi : Indep n n M) : (solR n n M).2 = true := by
 obtain ⟨M', hg, a1, a3, a4, hs⟩ := kp_ he hi
 rw [pm_ hg (fun i h1 h2 => absurd h1 Qa)]
theorem vt_ (n : Nat) (f : Nat → GF) (p : Nat → Nat) : ∀ (m : Nat) (f : Nat → GF), (∀ k, k < m → p k < n) → (∀ i j, i < m → j < m → p i = p j → i = j) → (∀ i, i < n → (∀ k, k < m → p k ≠ i) → f i = 0) → gsum n f = gsum m (fun k => f (p k)) := by
 intro m
 induction m with
 | zero =>
  intro f _ _ hz
  show gsum n f = 0
  rw [fd_ (g := fun _ => 0) (fun i hi => hz i hi (fun k hk => by omega)), fi_]
 | succ m ih =>
  intro f hp hi hz
  obtain ⟨f1, hf1⟩ : ∃ f1 : Nat → GF, f1 = fun i => if i = p m then 0 else f i := ⟨_, rfl⟩
  obtain ⟨f2, hf2⟩ : ∃ f2 : Nat → GF, f2 = fun i => if i = p m then f i else 0 := ⟨_, rfl⟩
  have h1 := ih f1 (fun k hk => hp k Qa) (fun i j h1 h2 => hi i j Qa Qa) (fun i hin hk => by
   rw [hf1]; simp only
   by_cases e : i = p m
   ·rw [if_pos e]
   rw [if_neg e]
   refine hz i hin fun k hk' => ?_
   rcases Nat.lt_or_ge k m with h | h
   ·exact hk k h
   ·rw [show k = m from by omega]; exact fun q => e q.symm)
  have h2 : gsum n f2 = f (p m) := by
   rw [yj_ n f2 (p m) (hp m Qa) (fun i _ hne => by rw [hf2]; simp only; rw [if_neg hne])]
   rw [hf2]; simp
  have h3 : gsum n f = gsum n f1 + gsum n f2 := by
   rw [← xj_]
   refine fd_ fun i hin => ?_
   rw [hf1, hf2]; simp only
   by_cases e : i = p m
   ·rw [if_pos e, if_pos e, GF.zero_add]
   ·rw [if_neg e, if_neg e, GF.add_zero]
  rw [h3, h1, h2]
  show _ = gsum m _ + _
  congr 1
  refine fd_ fun k hk => ?_
  rw [hf1]; simp only
  rw [if_neg (fun e => by have := hi k m Qa Qa e; omega)]
def PS (ps : List Int) (k : Nat) : Nat := (ps.getD k 0).toNat
def XP (n : Nat) (ps : List Int) (k : Nat) : GF := GF.ex (n - 1 - PS ps k)
def ue_ (n : Nat) (ps : List Int) : Prop := mf_ n ps ∧ ∀ i j, i < ps.length → j < ps.length → PS ps i = PS ps j → i = j
theorem wg1_ (a j : Nat) : GF.ex (j * a) = GF.pw (GF.ex a) j := by rw [Nat.mul_comm, GF.db1_]
theorem yw_ {n : Nat} (hn : n ≤ 100) {p : Int} (h0 : 0 ≤ p) (h1 : p < n) (j : Nat) (hj : j ≤ 100) : atI n p (j : Int) = ofG (GF.pw (GF.ex (n - 1 - p.toNat)) j) := by
 unfold atI powI
 have e1 : wrap64 ((n : Int) - 1) = ((n - 1 : Nat) : Int) := by unfold wrap64; omega
 have e2 : wrap64 (((n - 1 : Nat) : Int) - p) = ((n - 1 - p.toNat : Nat) : Int) := by unfold wrap64; omega
 have hb : j * (n - 1 - p.toNat) ≤ 100 * 100 := Nat.mul_le_mul hj Qa
 have e3 : wrap64 ((j : Int) * ((n - 1 - p.toNat : Nat) : Int)) = ((j * (n - 1 - p.toNat) : Nat) : Int) := by
  rw [← Int.natCast_mul]
  generalize j * (n - 1 - p.toNat) = q at hb
  unfold wrap64; omega
 rw [e1, e2, e3, ← wg1_]
 congr 1
 rw [show (((j * (n - 1 - p.toNat) : Nat) : Int) % 31).toNat = (j * (n - 1 - p.toNat)) % 31 from by omega, ← GF.ot_]
section
variable {l c c' ps : List Int}
theorem ue_.lt (hp : ue_ l.length ps) {k : Nat} (hk : k < ps.length) : PS ps k < l.length := by
 have := hp.1.2 k hk
 unfold PS; omega
theorem dd1_ (n : Nat) (ps : List Int) (k : Nat) : XP n ps k ≠ 0 := GF.er_ _
theorem xw_ (hn : l.length ≤ 15) (hp : ue_ l.length ps) : ∀ i j, i < ps.length → j < ps.length → XP l.length ps i = XP l.length ps j → i = j := by
 intro i j hi hj e
 have h1 := hp.lt hi
 have h2 := hp.lt hj
 have := GF.nf1_ Qa Qa e
 exact hp.2 i j hi hj Qa
structure qg_ (l ps c : List Int) : Prop where
 len : c.length = l.length
 agree : ∀ i, i < l.length → (∀ k, k < ps.length → PS ps k ≠ i) → c.getD i 0 = l.getD i 0
 els : ∀ k, k < ps.length → isEl (c.getD (PS ps k) 0) = true
 cw : ∀ j, j < 6 → psum c (j + 1) c.length = 0
theorem jm_ (hp : ue_ l.length ps) (hl : c.length = l.length) (ha : ∀ i, i < l.length → (∀ k, k < ps.length → PS ps k ≠ i) → c.getD i 0 = l.getD i 0) (j : Nat) :
  psum l j l.length + psum c j c.length = gsum ps.length (fun k => (vG (l.getD (PS ps k) 0) + vG (c.getD (PS ps k) 0)) * GF.pw (XP l.length ps k) j) := by
 unfold psum
 rw [hl, ← xj_]
 rw [fd_ (g := fun i => (vG (l.getD i 0) + vG (c.getD i 0)) * GF.pw (GF.ex (l.length - 1 - i)) j) (fun i hi => by rw [← GF.add_mul, wg1_])]
 rw [vt_ l.length (fun _ => 0) (PS ps) ps.length _ (fun k hk => hp.lt hk) hp.2 (fun i hi hk => by rw [ha i hi hk, GF.bh_, GF.zero_mul])]
 rfl
theorem oj_ (hn : l.length ≤ 15) (hp : ue_ l.length ps) : Indep 6 ps.length (rf_ (matFill l ps 6)) := by
 intro y hy
 have h6 := hp.1.1
 refine vand ps.length (XP l.length ps) y 1 (fun i _ => dd1_ _ _ _) (xw_ hn hp) fun j hj => ?_
 rw [← hy j Qa]
 refine fd_ fun k hk => ?_
 obtain ⟨h0, h1⟩ := hp.1.2 k hk
 rw [qj_ l ps h6 j k Qa, if_pos hk, yw_ Qa h0 h1 (j + 1) Qa, ug_, Nat.add_comm 1 j]
 exact GF.mul_comm _ _
theorem dy_ (hn : l.length ≤ 15) (hp : ue_ l.length ps) (y : Nat → GF) : SolM 6 ps.length (rf_ (matFill l ps 6)) y ↔ ∀ j, j < 6 → gsum ps.length (fun k => y k * GF.pw (XP l.length ps k) (j + 1)) = psum l (j + 1) l.length := by
 have h6 := hp.1.1
 have e : ∀ j, j < 6 → gsum ps.length (fun k => toG (rf_ (matFill l ps 6) j k) * y k) = gsum ps.length (fun k => y k * GF.pw (XP l.length ps k) (j + 1)) ∧ toG (rf_ (matFill l ps 6) j ps.length) = psum l (j + 1) l.length := by
  intro j hj
  refine ⟨fd_ fun k hk => ?_, ?_⟩
  ·obtain ⟨h0, h1⟩ := hp.1.2 k hk
   rw [qj_ l ps h6 j k hj, if_pos hk, yw_ Qa h0 h1 (j + 1) Qa, ug_]
   exact GF.mul_comm _ _
  ·rw [qj_ l ps h6 j _ hj, if_neg Qa, if_pos rfl, ug_]
 refine ⟨fun h j hj => ?_, fun h j hj => ?_⟩
 ·rw [← (e j hj).1, ← (e j hj).2]; exact h j hj
 ·rw [(e j hj).1, (e j hj).2]; exact h j hj
theorem qg_.sol (hn : l.length ≤ 15) (hp : ue_ l.length ps) (h : qg_ l ps c) : SolM 6 ps.length (rf_ (matFill l ps 6)) (fun k => vG (l.getD (PS ps k) 0) + vG (c.getD (PS ps k) 0)) := by
 rw [dy_ hn hp]
 intro j hj
 rw [← jm_ hp h.len h.agree, h.cw j hj, GF.add_zero]
theorem qg_.uniq (hn : l.length ≤ 15) (hp : ue_ l.length ps) (h : qg_ l ps c) (h' : qg_ l ps c') : c = c' := by
 have hy := oj_ hn hp (fun k => vG (c.getD (PS ps k) 0) + vG (c'.getD (PS ps k) 0)) (fun i hi => by
  have h6 := hp.1.1
  have e := jm_ (l := c) (c := c') (ps := ps) (by rw [h.len]; exact hp) (by rw [h.len, h'.len]) (fun i hi hk => by rw [h.agree i (by rw [← h.len]; exact hi) hk, h'.agree i (by rw [← h.len]; exact hi) hk]) (i + 1)
  rw [h.cw i hi, h'.cw i hi, GF.add_zero, h.len] at e
  rw [e]
  refine fd_ fun k hk => ?_
  obtain ⟨h0, h1⟩ := hp.1.2 k hk
  rw [qj_ l ps h6 i k hi, if_pos hk, yw_ Qa h0 h1 (i + 1) Qa, ug_]
  exact GF.mul_comm _ _)
 apply List.ext_getElem (by rw [h.len, h'.len])
 intro i h1 h2
 have e : c.getD i 0 = c'.getD i 0 := by
  by_cases hk : ∃ k, k < ps.length ∧ PS ps k = i
  ·obtain ⟨k, hk, rfl⟩ := hk
   have := GF.di_ (hy k hk)
   rw [← nn_ (h.els k hk), this, nn_ (h'.els k hk)]
  ·have hk' : ∀ k, k < ps.length → PS ps k ≠ i := fun k hk1 e => hk ⟨k, hk1, e⟩
   rw [h.agree i (by rw [← h.len]; exact h1) hk', h'.agree i (by rw [← h.len]; exact h1) hk']
 rwa [List.getD_eq_getElem?_getD, List.getD_eq_getElem?_getD, List.getElem?_eq_getElem h1, List.getElem?_eq_getElem h2] at e
end
end Go.Proofs.YtpkhgapifnjbeaaGreatDoor.G
end
section
namespace Go.Proofs.YtpkhgapifnjbeaaGreatDoor.G
open RowKit Zw.PrintWords Zw.PrintLast Zw.PrintMore Rs
def setsTo (l ps : List Int) (v : Nat → Int) : Nat → List Int
 | 0 => l
 | i + 1 => (setsTo l ps v i).set (PS ps i) (v i)
theorem ag_ (l ps : List Int) (v : Nat → Int) (i : Nat) : (setsTo l ps v i).length = l.length := by
 induction i with
 | zero => rfl
 | succ i ih => simp only [setsTo, List.length_set, ih]
theorem kr_ (l ps ys : List Int) (i : Nat) : ju_ l ps ys i = setsTo l ps (fun k => xorI (mx (l.getD (PS ps k) 0) 0) (ys.getD k 0)) i := by
 induction i with
 | zero => rfl
 | succ i ih => simp only [ju_, setsTo, ih]; rfl
theorem eq_ (o ps : List Int) (M : Nat → Nat → Int) (i : Nat) : tailTo ps M i o = setsTo o ps (fun k => M k ps.length) i := by
 induction i with
 | zero => rfl
 | succ i ih => simp only [tailTo, setsTo, ih, ye_]; rfl
theorem ek_ (l ps : List Int) (i : Nat) : zeroTo l ps i = setsTo l ps (fun _ => 0) i := by
 induction i with
 | zero => rfl
 | succ i ih => simp only [zeroTo, setsTo, ih]; rfl
theorem ks_ (l : List Int) (i j : Nat) (x : Int) : (l.set i x).getD j 0 = if i = j ∧ i < l.length then x else l.getD j 0 := by
 rw [List.getD_eq_getElem?_getD, List.getElem?_set, List.getD_eq_getElem?_getD]
 by_cases e : i = j
 rotate_left
 ·simp [e]
 subst e
 by_cases h : i < l.length
 ·simp [h]
 ·simp [h]
theorem ai_ (l ps : List Int) (v : Nat → Int) (i : Nat) : ∀ m, (∀ k, k < m → PS ps k ≠ i) → (setsTo l ps v m).getD i 0 = l.getD i 0 := by
 intro m
 induction m with
 | zero => intro _; rfl
 | succ m ih =>
  intro h
  simp only [setsTo]
  rw [ks_, if_neg (fun q => h m Qa q.1), ih (fun k hk => h k Qa)]
theorem dj_ {l ps : List Int} (hp : ue_ l.length ps) (v : Nat → Int) : ∀ m k, m ≤ ps.length → k < m → (setsTo l ps v m).getD (PS ps k) 0 = v k := by
 intro m
 induction m with
 | zero => intro k _ hk; omega
 | succ m ih =>
  intro k hm hk
  simp only [setsTo]
  rw [ks_, ag_]
  by_cases e : k = m
  ·subst e
   rw [if_pos ⟨rfl, hp.lt Qa⟩]
  rw [if_neg (fun q => e (hp.2 m k Qa Qa q.1).symm)]
  exact ih k Qa Qa
theorem mx_vG {x : Int} (h : -1 ≤ x ∧ x ≤ 31) : mx x 0 = ofG (vG x) := by
 unfold mx
 by_cases h0 : x < 0
 ·rw [if_pos h0]
  unfold vG
  rw [if_neg (by simp [isEl]; omega)]; rfl
 ·rw [if_neg h0, nn_ (by simp [isEl]; omega)]
section
variable {l c ps : List Int}
theorem wv_ (hn : l.length ≤ 15) (hp : ue_ l.length ps) (hw : ∀ k, k < ps.length → -1 ≤ l.getD (PS ps k) 0 ∧ l.getD (PS ps k) 0 ≤ 31) (h : qg_ l ps c) : fm_ l ps = c := by
 have h6 := hp.1.1
 obtain ⟨h2, hy⟩ := tr_ (fs_ l ps h6) (oj_ hn hp) (h.sol hn hp)
 unfold fm_
 rw [if_pos h2, kr_]
 apply List.ext_getElem (by rw [ag_, h.len])
 intro i h1 h3
 have e : (setsTo l ps (fun k => xorI (mx (l.getD (PS ps k) 0) 0) ((solR 6 ps.length (rf_ (matFill l ps 6))).1.getD k 0)) ps.length).getD i 0 = c.getD i 0 := by
  by_cases hk : ∃ k, k < ps.length ∧ PS ps k = i
  ·obtain ⟨k, hk, rfl⟩ := hk
   rw [dj_ hp _ _ _ (Nat.le_refl _) hk, hy k hk, mx_vG (hw k hk), zk_]
   rw [← GF.add_assoc, GF.bh_, GF.zero_add, nn_ (h.els k hk)]
  ·have hk' : ∀ k, k < ps.length → PS ps k ≠ i := fun k hk1 e => hk ⟨k, hk1, e⟩
   rw [ai_ _ _ _ _ _ hk', h.agree i (by rw [ag_] at h1; exact h1) hk']
 rwa [List.getD_eq_getElem?_getD, List.getD_eq_getElem?_getD, List.getElem?_eq_getElem h1, List.getElem?_eq_getElem h3] at e
theorem kx_ (hn : l.length ≤ 15) (hp : ue_ l.length ps) (hw : ∀ k, k < ps.length → -1 ≤ l.getD (PS ps k) 0 ∧ l.getD (PS ps k) 0 ≤ 31) : fm_ l ps = [] ∨ qg_ l ps (fm_ l ps) := by
 have h6 := hp.1.1
 unfold fm_
 by_cases h2 : (solR 6 ps.length (rf_ (matFill l ps 6))).2 = true
 rotate_left
 ·rw [if_neg h2]; exact .inl rfl
 rw [if_pos h2]
 refine .inr ?_
 obtain ⟨hs, hel⟩ := we1_ (fs_ l ps h6) (oj_ hn hp) h2
 rw [dy_ hn hp] at hs
 rw [kr_]
 obtain ⟨ys, hys⟩ : ∃ ys, ys = (solR 6 ps.length (rf_ (matFill l ps 6))).1 := ⟨_, rfl⟩
 rw [← hys] at hs hel ⊢
 have hv : ∀ k, k < ps.length → xorI (mx (l.getD (PS ps k) 0) 0) (ys.getD k 0) = ofG (vG (l.getD (PS ps k) 0) + toG (ys.getD k 0)) := by
  intro k hk
  rw [mx_vG (hw k hk), ← zk_, xg_ ((ge_ _).1 (hel k hk)).1 ((ge_ _).1 (hel k hk)).2]
 have hag : ∀ i, i < l.length → (∀ k, k < ps.length → PS ps k ≠ i) → (setsTo l ps (fun k => xorI (mx (l.getD (PS ps k) 0) 0) (ys.getD k 0)) ps.length).getD i 0 = l.getD i 0 := fun i hi hk => ai_ _ _ _ _ _ hk
 refine ⟨ag_ _ _ _ _, hag, fun k hk => ?_, fun j hj => ?_⟩
 ·rw [dj_ hp _ _ _ (Nat.le_refl _) hk, hv k hk]; exact pg_ _
 have e := jm_ (c := setsTo l ps (fun k => xorI (mx (l.getD (PS ps k) 0) 0) (ys.getD k 0)) ps.length) hp (ag_ _ _ _ _) hag (j + 1)
 rw [← hs j hj] at e
 have e2 : gsum ps.length (fun k => (vG (l.getD (PS ps k) 0) + vG ((setsTo l ps (fun k => xorI (mx (l.getD (PS ps k) 0) 0) (ys.getD k 0)) ps.length).getD (PS ps k) 0)) * GF.pw (XP l.length ps k) (j + 1)) = gsum ps.length (fun k => toG (ys.getD k 0) * GF.pw (XP l.length ps k) (j + 1)) := by
  refine fd_ fun k hk => ?_
  rw [dj_ hp _ _ _ (Nat.le_refl _) hk, hv k hk, vG_ofG, ← GF.add_assoc, GF.bh_, GF.zero_add]
 rw [e2] at e
 have := congrArg (fun q => gsum ps.length (fun k => toG (ys.getD k 0) * GF.pw (XP l.length ps k) (j + 1)) + q) e
 simp only [GF.bh_] at this
 rwa [← GF.add_assoc, GF.bh_, GF.zero_add] at this
theorem qg_.zero (hp : ue_ l.length ps) : qg_ (zeroTo l ps ps.length) ps c ↔ qg_ l ps c := by
 have hoff : ∀ i, (∀ k, k < ps.length → PS ps k ≠ i) → (zeroTo l ps ps.length).getD i 0 = l.getD i 0 := fun i hk => by rw [ek_]; exact ai_ _ _ _ _ _ hk
 refine ⟨fun h => ⟨by rw [h.len, qe_], fun i hi hk => by rw [h.agree i (by rw [qe_]; exact hi) hk, hoff i hk], h.els, h.cw⟩, fun h => ⟨by rw [h.len, qe_], fun i hi hk => by rw [qe_] at hi; rw [h.agree i hi hk, hoff i hk], h.els, h.cw⟩⟩
theorem lg_ (h : gf_ c = true) : isWord c 0 = true ∧ ∀ j, j < 6 → psum c (j + 1) c.length = 0 := by
 unfold gf_ at h
 simp only [Bool.and_eq_true, List.all_eq_true, decide_eq_true_eq] at h
 exact ⟨h.1, fun j hj => h.2 j (List.mem_range.2 hj)⟩
theorem ra1_ (h1 : isWord c 0 = true) (h2 : ∀ j, j < 6 → psum c (j + 1) c.length = 0) : gf_ c = true := by
 unfold gf_
 simp only [Bool.and_eq_true, List.all_eq_true, decide_eq_true_eq]
 exact ⟨h1, fun j hj => h2 j (List.mem_range.1 hj)⟩
theorem tl_ (hn : l.length ≤ 15) (hp : ue_ l.length ps) (h : qg_ l ps c) : fillS l ps = (c, gf_ c) := by
 have h6 := hp.1.1
 have hz := (qg_.zero hp).2 h
 have hzl := qe_ l ps ps.length
 have hp' : ue_ (zeroTo l ps ps.length).length ps := by rw [hzl]; exact hp
 have hn' : (zeroTo l ps ps.length).length ≤ 15 := by rw [hzl]; exact hn
 obtain ⟨M', hg, a1, a3, a4, hs⟩ := kp_ (fs_ (zeroTo l ps ps.length) ps h6) (oj_ hn' hp')
 have hM := (hs _).1 (hz.sol hn' hp')
 unfold fillS
 rw [hg]
 have e : tailTo ps M' ps.length (zeroTo l ps ps.length) = c := by
  rw [eq_]
  apply List.ext_getElem (by rw [ag_, hzl, h.len])
  intro i h1 h3
  have e : (setsTo (zeroTo l ps ps.length) ps (fun k => M' k ps.length) ps.length).getD i 0 = c.getD i 0 := by
   by_cases hk : ∃ k, k < ps.length ∧ PS ps k = i
   ·obtain ⟨k, hk, rfl⟩ := hk
    rw [dj_ hp' _ _ _ (Nat.le_refl _) hk, gj_at (M := rf_ (matFill (zeroTo l ps ps.length) ps 6)) a1 hM k hk a4]
    rw [ek_, dj_ hp _ _ _ (Nat.le_refl _) hk, show vG 0 = 0 from rfl, GF.zero_add, nn_ (h.els k hk)]
   ·have hk' : ∀ k, k < ps.length → PS ps k ≠ i := fun k hk1 e => hk ⟨k, hk1, e⟩
    rw [ai_ _ _ _ _ _ hk', hz.agree i (by rw [ag_] at h1; exact h1) hk']
  rwa [List.getD_eq_getElem?_getD, List.getD_eq_getElem?_getD, List.getElem?_eq_getElem h1, List.getElem?_eq_getElem h3] at e
 simp only [e]
theorem lx_ (hn : l.length ≤ 15) (hp : ue_ l.length ps) (h : (fillS l ps).2 = true) : qg_ l ps (fillS l ps).1 ∧ gf_ (fillS l ps).1 = true := by
 have h6 := hp.1.1
 have hzl := qe_ l ps ps.length
 have hp' : ue_ (zeroTo l ps ps.length).length ps := by rw [hzl]; exact hp
 unfold fillS at h ⊢
 cases hg : gjI 6 (rf_ (matFill (zeroTo l ps ps.length) ps 6)) ps.length with
 | none => rw [hg] at h; cases h
 | some M' =>
  rw [hg] at h
  simp only at h ⊢
  refine ⟨(qg_.zero hp).1 ?_, h⟩
  obtain ⟨c1, c2⟩ := lg_ h
  obtain ⟨e1, e2, e3⟩ := jq_ c1
  refine ⟨by rw [si_], fun i hi hk => by rw [eq_]; exact ai_ _ _ _ _ _ hk, fun k hk => bl_ e1 _ (by rw [si_]; exact hp'.lt hk), c2⟩
end
end Go.Proofs.YtpkhgapifnjbeaaGreatDoor.G
end
section
namespace Go.Proofs.YtpkhgapifnjbeaaGreatDoor.E
open RowKit G Rs Zw.PrintWords Zw.PrintLast Zw.PrintMore
attribute [local go_sem] id_ kd_ vd_ wd_ bd_ cd_ jd_ ld_
def errW : Option Int → Value
 | none => .nilIface
 | some c => .iface 0 (.int .i64 c)
theorem ta_ : errW none = .nilIface := rfl
theorem ua_ (c : Int) : errW (some c) = .iface 0 (.int .i64 c) := rfl
theorem gi_ : (Tryz.prog.info? 3).map (fun i => (i.zero, i.size, i.bytes)) = some (some (.int .i64 0), 1, 8) := by kernel_rfl
def sf_ (xs : List (List Int)) (i : Int) : (List Int) := xs.getD i.toNat ([] : List Int)
theorem dt_ {w : World} {A : Option Addr} {n : Nat} {xs : List (List Int)} (h : Kd.C (Kd.slice 3 (Kd.int .i64)) w A n xs) (i : Int) (h0 : 0 ≤ i) (h1 : i < n) : ∃ ad A0 c0, A = some ad ∧ w.cell? (ad.add i.toNat) = some (.slice A0 (sf_ xs i).length c0) ∧ (sf_ xs i).length ≤ c0 ∧ (Kd.int .i64).C w A0 (sf_ xs i).length (sf_ xs i) := by
 obtain ⟨ad, c, e, _, hK, hc0⟩ := Kd.oi_ h ([] : List Int) i h0 h1
 have hc : ∀ j u, c[j]? = some u → w.cell? (ad.add (i.toNat * 1 + j)) = some u := hc0
 obtain ⟨A0, c0, rfl, l0, g0⟩ := hK
 exact ⟨ad, A0, c0, e, Q0, l0, g0⟩
def jh_ (xs : List (List Int)) (i : Int) : (List Int) := xs.getD i.toNat ([] : List Int)
theorem ia1_ {w : World} {A : Option Addr} {n : Nat} {xs : List (List Int)} (h : Kd.C (Kd.slice 88 (Kd.int .i64)) w A n xs) (i : Int) (h0 : 0 ≤ i) (h1 : i < n) : ∃ ad A0 c0, A = some ad ∧ w.cell? (ad.add i.toNat) = some (.slice A0 (jh_ xs i).length c0) ∧ (jh_ xs i).length ≤ c0 ∧ (Kd.int .i64).C w A0 (jh_ xs i).length (jh_ xs i) := by
 obtain ⟨ad, c, e, _, hK, hc0⟩ := Kd.oi_ h ([] : List Int) i h0 h1
 have hc : ∀ j u, c[j]? = some u → w.cell? (ad.add (i.toNat * 1 + j)) = some u := hc0
 obtain ⟨A0, c0, rfl, l0, g0⟩ := hK
 exact ⟨ad, A0, c0, e, Q0, l0, g0⟩
def bk_ (xs : List (List Int)) (i : Int) : (List Int) := xs.getD i.toNat ([] : List Int)
theorem jg1_ {w : World} {A : Option Addr} {n : Nat} {xs : List (List Int)} (h : Kd.C (Kd.slice 87 (Kd.int .i64)) w A n xs) (i : Int) (h0 : 0 ≤ i) (h1 : i < n) : ∃ ad A0 c0, A = some ad ∧ w.cell? (ad.add i.toNat) = some (.slice A0 (bk_ xs i).length c0) ∧ (bk_ xs i).length ≤ c0 ∧ (Kd.int .i64).C w A0 (bk_ xs i).length (bk_ xs i) := by
 obtain ⟨ad, c, e, _, hK, hc0⟩ := Kd.oi_ h ([] : List Int) i h0 h1
 have hc : ∀ j u, c[j]? = some u → w.cell? (ad.add (i.toNat * 1 + j)) = some u := hc0
 obtain ⟨A0, c0, rfl, l0, g0⟩ := hK
 exact ⟨ad, A0, c0, e, Q0, l0, g0⟩
def vs_ (xs : List (List (List Int))) (i : Int) : (List (List Int)) := xs.getD i.toNat ([] : List (List Int))
theorem at_L5 {w : World} {A : Option Addr} {n : Nat} {xs : List (List (List Int))} (h : Kd.C (Kd.slice 124 (Kd.slice 87 (Kd.int .i64))) w A n xs) (i : Int) (h0 : 0 ≤ i) (h1 : i < n) : ∃ ad A0 c0, A = some ad ∧ w.cell? (ad.add i.toNat) = some (.slice A0 (vs_ xs i).length c0) ∧ (vs_ xs i).length ≤ c0 ∧ (Kd.slice 87 (Kd.int .i64)).C w A0 (vs_ xs i).length (vs_ xs i) := by
 obtain ⟨ad, c, e, _, hK, hc0⟩ := Kd.oi_ h ([] : List (List Int)) i h0 h1
 have hc : ∀ j u, c[j]? = some u → w.cell? (ad.add (i.toNat * 1 + j)) = some u := hc0
 obtain ⟨A0, c0, rfl, l0, g0⟩ := hK
 exact ⟨ad, A0, c0, e, Q0, l0, g0⟩
end Go.Proofs.YtpkhgapifnjbeaaGreatDoor.E
end
section
namespace Go.Proofs.YtpkhgapifnjbeaaGreatDoor.E
open RowKit G Rs Zw.PrintWords Zw.PrintLast Zw.PrintMore
attribute [local go_sem] id_ kd_ vd_ wd_ bd_ cd_ jd_ ld_
def ve_.f (a0 : Int) (a1 : Int) : Option (Int × Int) := some (((IntKind.u64.wrap ((IntKind.u64.wrap (a0)) * (IntKind.u64.wrap (a1)))) / 4294967296) % 4294967296, (IntKind.u64.wrap ((IntKind.u64.wrap (a0)) * (IntKind.u64.wrap (a1)))) % 4294967296)
set_option maxHeartbeats 8000000 in
set_option maxRecDepth 100000 in
theorem ve_.calls (a0 : Int) (a1 : Int) (r1 : Int) (r2 : Int) (w : World) (h : ve_.f a0 a1 = some (r1, r2)) :
  Calls Tryz.prog 99 #[.int .u32 a0, .int .u32 a1] w fun e w' => e = .returned (.tuple #[.int .u32 r1, .int .u32 r2]) ∧ ja_ w w' := by
 have H : (some (((IntKind.u64.wrap ((IntKind.u64.wrap (a0)) * (IntKind.u64.wrap (a1)))) / 4294967296) % 4294967296, (IntKind.u64.wrap ((IntKind.u64.wrap (a0)) * (IntKind.u64.wrap (a1)))) % 4294967296)) = some (r1, r2) := h
 clear h
 simp only [Option.some.injEq, Prod.mk.injEq] at H
 obtain ⟨rfl, rfl⟩ := H
 go_enter Tryz.func99, Tryz.ntmps99
 go_wp2
 go_ret2
 exact ⟨Qi, Qp⟩
def qd_.f (a0 : Int) (a1 : Int) : Option (Int × Int) := some (IntKind.u64.wrap ((IntKind.u64.wrap ((IntKind.u64.wrap ((a0 / 4294967296) * (a1 / 4294967296))) + ((IntKind.u64.wrap ((IntKind.u64.wrap ((a0 / 4294967296) * (Go.bits .and .u64 a1 4294967295))) + ((IntKind.u64.wrap ((Go.bits .and .u64 a0 4294967295) * (Go.bits .and .u64 a1 4294967295))) / 4294967296))) / 4294967296))) + ((IntKind.u64.wrap ((Go.bits .and .u64 (IntKind.u64.wrap ((IntKind.u64.wrap ((a0 / 4294967296) * (Go.bits .and .u64 a1 4294967295))) + ((IntKind.u64.wrap ((Go.bits .and .u64 a0 4294967295) * (Go.bits .and .u64 a1 4294967295))) / 4294967296))) 4294967295) + (IntKind.u64.wrap ((Go.bits .and .u64 a0 4294967295) * (a1 / 4294967296))))) / 4294967296)), IntKind.u64.wrap (a0 * a1))
set_option maxHeartbeats 8000000 in
set_option maxRecDepth 100000 in
theorem qd_.calls (a0 : Int) (a1 : Int) (r1 : Int) (r2 : Int) (w : World) (h : qd_.f a0 a1 = some (r1, r2)) :
  Calls Tryz.prog 100 #[.int .u64 a0, .int .u64 a1] w fun e w' => e = .returned (.tuple #[.int .u64 r1, .int .u64 r2]) ∧ ja_ w w' := by
 have H : (some (IntKind.u64.wrap ((IntKind.u64.wrap ((IntKind.u64.wrap ((a0 / 4294967296) * (a1 / 4294967296))) + ((IntKind.u64.wrap ((IntKind.u64.wrap ((a0 / 4294967296) * (Go.bits .and .u64 a1 4294967295))) + ((IntKind.u64.wrap ((Go.bits .and .u64 a0 4294967295) * (Go.bits .and .u64 a1 4294967295))) / 4294967296))) / 4294967296))) + ((IntKind.u64.wrap ((Go.bits .and .u64 (IntKind.u64.wrap ((IntKind.u64.wrap ((a0 / 4294967296) * (Go.bits .and .u64 a1 4294967295))) + ((IntKind.u64.wrap ((Go.bits .and .u64 a0 4294967295) * (Go.bits .and .u64 a1 4294967295))) / 4294967296))) 4294967295) + (IntKind.u64.wrap ((Go.bits .and .u64 a0 4294967295) * (a1 / 4294967296))))) / 4294967296)), IntKind.u64.wrap (a0 * a1))) = some (r1, r2) := h
 clear h
 simp only [Option.some.injEq, Prod.mk.injEq] at H
 obtain ⟨rfl, rfl⟩ := H
 go_enter Tryz.func100, Tryz.ntmps100
 go_wp2
 go_ret2
 exact ⟨Qi, Qp⟩
def lf_.f (a0 : Int) (a1 : Int) : Option (Int × Int) := (qd_.f a0 a1).bind fun bt101 => (some (bt101.1, bt101.2))
set_option maxHeartbeats 8000000 in
set_option maxRecDepth 100000 in
theorem lf_.calls (a0 : Int) (a1 : Int) (r1 : Int) (r2 : Int) (w : World) (h : lf_.f a0 a1 = some (r1, r2)) :
  Calls Tryz.prog 71 #[.int .u64 a0, .int .u64 a1] w fun e w' => e = .returned (.tuple #[.int .u64 r1, .int .u64 r2]) ∧ ja_ w w' := by
 have H : ((qd_.f a0 a1).bind fun bt101 => (some (bt101.1, bt101.2))) = some (r1, r2) := h
 clear h
 obtain ⟨⟨t101, t102⟩, A3, H⟩ := Qk H
 try dsimp only at H
 simp only [Option.some.injEq, Prod.mk.injEq] at H
 obtain ⟨rfl, rfl⟩ := H
 go_enter Tryz.func71, Tryz.ntmps71
 go_wp2_with (first | ((with_reducible refine ia_ (f := 100) rfl ?_); refine gc_ (some 25) rfl rfl Tryz.func100 Qb rfl #[.int .u64 a0, .int .u64 a1] rfl Qj ?_; (with_reducible refine (qd_.calls a0 a1 t101 t102 _ A3.out).mono ?_); rintro e w' ⟨rfl, ⟨nd, rfl⟩⟩; refine ⟨_, rfl, ?_⟩))
 go_ret2
 exact ⟨Qi, Qp⟩
def mc_.l0 : Nat → List Int → Int → Int → Int → Option (Int)
 | 0, _, _, _, _ => none
 | k + 1, x0, x1, x7, x8 => if x8 < x7 then (if 0 ≤ x8 then (if x8 < (x0.length : Int) then (if x1 = (rd x0 x8) then (some x8) else (mc_.l0 k x0 x1 x7 (wrap64 (x8 + 1)))) else (none)) else (none)) else (some (-1))
def mc_.f (k : Nat) (l0 : List Int) (a1 : Int) : Option (Int) := mc_.l0 k l0 a1 (l0.length : Int) 0
theorem mc_.yc_ : ∀ k, (∀ y0 y1 y2 y3, LeO (mc_.l0 k y0 y1 y2 y3) (mc_.l0 (k + 1) y0 y1 y2 y3))
 | 0 => fun _ _ _ _ r h => by simp [mc_.l0] at h
 | k + 1 => by
  have ih0 := mc_.yc_ k
  intro y0 y1 y2 y3
  unfold mc_.l0
  repeat' first
  | (with_reducible exact ih0 _ _ _ _)
  | (with_reducible first | exact LeO.refl _ | exact LeO.none _ | refine LeO.ite ?_ ?_ | refine LeO.bind ?_ (fun _ => ?_))
  | exact ih0 _ _ _ _
  | exact LeO.none _
  | refine LeO.ite ?_ ?_
  | refine LeO.bind ?_ (fun _ => ?_)
theorem mc_.mono : ∀ a0 a1 k, LeO (mc_.f k a0 a1) (mc_.f (k + 1) a0 a1) := by
 intro a0 a1 k
 have ih0 := mc_.yc_ k
 unfold mc_.f
 repeat' first
   | (with_reducible exact ih0 _ _ _ _)
   | (with_reducible first | exact LeO.refl _ | exact LeO.none _ | refine LeO.ite ?_ ?_ | refine LeO.bind ?_ (fun _ => ?_))
   | exact ih0 _ _ _ _
   | exact LeO.none _
   | refine LeO.ite ?_ ?_
   | refine LeO.bind ?_ (fun _ => ?_)
set_option maxHeartbeats 8000000 in
set_option maxRecDepth 100000 in
theorem mc_.calls (k : Nat) (A0 : Option Addr) (c0 : Nat) (l0 : List Int) (a1 : Int) (r : Int) (w : World) (hr0 : Kd.C (Kd.int .i64) w A0 l0.length l0) (hc0 : l0.length ≤ c0) (h : mc_.f k l0 a1 = some r) :
  Calls Tryz.prog 94 #[.slice A0 l0.length c0, .int .i64 a1] w fun e w' => e = .returned (.int .i64 r) ∧ ja_ w w' := by
 have HR0 := ba_.mk hr0
 have HC0 := ba_.mk hc0
 clear hr0 hc0
 have H : (mc_.l0 k l0 a1 (l0.length : Int) 0) = some r := h
 clear h
 have H' := ba_.mk H
 clear H
 go_enter Tryz.func94, Tryz.ntmps94
 go_wp2
 go_loopg [8] k (fun kq v8 w' => ∃ (x8_1 : Int), v8 = .int .i64 x8_1 ∧ ba_ (mc_.l0 kq l0 a1 (l0.length : Int) x8_1 = some r) ∧ ba_ (kq ≤ k) ∧ ja_ w w')
 case atStart => exact Yb
 case round =>
  clear H'
  try clear p2
  obtain ⟨x8_1, rfl, HA, HK1, ⟨m1, rfl⟩⟩ := hrel
  cases gk with
  | zero => exact absurd HA.out (by simp [mc_.l0])
  | succ k1 =>
   have H := HA.out
   clear HA
   simp only [mc_.l0] at H
   by_cases c3 : x8_1 < (l0.length : Int)
   rotate_left
   ·exact Yu
   rw [if_pos c3] at H
   have c3b0 := decide_eq_true c3
   clear c3
   obtain ⟨c4, H⟩ := Qn H
   have c4b0 := decide_eq_true c4
   clear c4
   obtain ⟨c5, H⟩ := Qn H
   have c5b0 := decide_eq_true c5
   clear c5
   by_cases c6 : a1 = (rd l0 x8_1)
   ·rw [if_pos c6] at H
    have c6b0 : (a1 == (rd l0 x8_1)) = true := beq_iff_eq.mpr c6
    have c6b1 : (a1 != (rd l0 x8_1)) = false := bne_eq_false_iff_eq.mpr c6
    clear c6
    obtain rfl := Option.some.inj H
    have p104 : 0 ≤ (x8_1 : Int) := of_decide_eq_true Qg
    have q104 : x8_1 < (l0.length : Int) := of_decide_eq_true Qg
    obtain ⟨ad104, e104, hx104_0⟩ := Kd.sd_ HR0.out x8_1 p104 q104
    cases e104
    replace p104 := eq_true p104
    replace q104 := eq_true q104
    go_wp2
    go_ret
    exact ⟨Qi, Qp⟩
   rw [if_neg c6] at H
   have c6b0 : (a1 == (rd l0 x8_1)) = false := beq_eq_false_iff_ne.mpr c6
   have c6b1 : (a1 != (rd l0 x8_1)) = true := bne_iff_ne.mpr c6
   have H' := ba_.mk H
   clear H
   have p104 : 0 ≤ (x8_1 : Int) := of_decide_eq_true Qg
   have q104 : x8_1 < (l0.length : Int) := of_decide_eq_true Qg
   obtain ⟨ad104, e104, hx104_0⟩ := Kd.sd_ HR0.out x8_1 p104 q104
   cases e104
   replace p104 := eq_true p104
   replace q104 := eq_true q104
   go_wp2
   go_roundg k1
   case measure => have := HK1.out; omega
   case rel => exact ⟨(wrap64 (x8_1 + 1)), Qi, H', ⟨Qw⟩, Qp⟩
def tc_.f (k : Nat) (l0 : List Int) (a1 : Int) : Option (Bool) := (mc_.f k l0 a1).bind fun t105 => (some (decide (t105 ≥ 0)))
theorem tc_.mono : ∀ a0 a1 k, LeO (tc_.f k a0 a1) (tc_.f (k + 1) a0 a1) := by
 intro a0 a1 k
 unfold tc_.f
 repeat' first
   | (with_reducible exact mc_.mono _ _ _)
   | (with_reducible first | exact LeO.refl _ | exact LeO.none _ | refine LeO.ite ?_ ?_ | refine LeO.bind ?_ (fun _ => ?_))
   | exact mc_.mono _ _ _
   | exact LeO.none _
   | refine LeO.ite ?_ ?_
   | refine LeO.bind ?_ (fun _ => ?_)
set_option maxHeartbeats 8000000 in
set_option maxRecDepth 100000 in
theorem tc_.calls (k : Nat) (A0 : Option Addr) (c0 : Nat) (l0 : List Int) (a1 : Int) (r : Bool) (w : World) (hr0 : Kd.C (Kd.int .i64) w A0 l0.length l0) (hc0 : l0.length ≤ c0) (h : tc_.f k l0 a1 = some r) :
  Calls Tryz.prog 68 #[.slice A0 l0.length c0, .int .i64 a1] w fun e w' => e = .returned (.bool r) ∧ ja_ w w' := by
 have HR0 := ba_.mk hr0
 have HC0 := ba_.mk hc0
 clear hr0 hc0
 have H : ((mc_.f k l0 a1).bind fun t105 => (some (decide (t105 ≥ 0)))) = some r := h
 clear h
 obtain ⟨t105, A3, H⟩ := Qk H
 try dsimp only at H
 obtain rfl := Option.some.inj H
 go_enter Tryz.func68, Tryz.ntmps68
 go_wp2_with (first | ((with_reducible refine ia_ (f := 94) rfl ?_); refine gc_ (some 7) rfl rfl Tryz.func94 Qb rfl #[.slice A0 l0.length c0, .int .i64 a1] rfl Qj ?_; (with_reducible refine (mc_.calls k _ _ l0 a1 t105 _ ?side1 ?side2 A3.out).mono ?_); (case side1 => exact Xa); (case side2 => exact HC0.out); rintro e w' ⟨rfl, ⟨nd, rfl⟩⟩; refine ⟨_, rfl, ?_⟩))
 go_ret
 exact ⟨Qi, Qp⟩
def nc_.f (a0 : Int) : Option (Int) := if (wrap64 (a0 * 2)) ≥ 32 then (some (Go.bits .xor .i64 (wrap64 (a0 * 2)) 37)) else (some (wrap64 (a0 * 2)))
set_option maxHeartbeats 8000000 in
set_option maxRecDepth 100000 in
theorem nc_.calls (a0 : Int) (r : Int) (w : World) (h : nc_.f a0 = some r) :
  Calls Tryz.prog 114 #[.int .i64 a0] w fun e w' => e = .returned (.int .i64 r) ∧ ja_ w w' := by
 have H : (if (wrap64 (a0 * 2)) ≥ 32 then (some (Go.bits .xor .i64 (wrap64 (a0 * 2)) 37)) else (some (wrap64 (a0 * 2)))) = some r := h
 clear h
 by_cases c2 : (wrap64 (a0 * 2)) ≥ 32
 ·exact Xg
 ·exact Xh
def sc_.f (a0 : Int) : Option (Bool) := if a0 ≥ 0 then (some (decide (a0 < 32))) else (some false)
set_option maxHeartbeats 8000000 in
set_option maxRecDepth 100000 in
theorem sc_.calls (a0 : Int) (r : Bool) (w : World) (h : sc_.f a0 = some r) :
  Calls Tryz.prog 112 #[.int .i64 a0] w fun e w' => e = .returned (.bool r) ∧ ja_ w w' := by
 have H : (if a0 ≥ 0 then (some (decide (a0 < 32))) else (some false)) = some r := h
 clear h
 by_cases c2 : a0 ≥ 0
 ·exact Xx
 ·exact Xy
def pa_.l0 : Nat → Int → Int → Int → Option (Int)
 | 0, _, _, _ => none
 | k + 1, x0, x3, x5 => if x5 < 31 then (if x3 = x0 then (some x5) else ((nc_.f x3).bind fun t106 => (pa_.l0 k x0 t106 (wrap64 (x5 + 1))))) else (some 0)
def pa_.f (k : Nat) (a0 : Int) : Option (Int) := pa_.l0 k a0 1 0
theorem pa_.yc_ : ∀ k, (∀ y0 y1 y2, LeO (pa_.l0 k y0 y1 y2) (pa_.l0 (k + 1) y0 y1 y2))
 | 0 => fun _ _ _ r h => by simp [pa_.l0] at h
 | k + 1 => by
  have ih0 := pa_.yc_ k
  intro y0 y1 y2
  unfold pa_.l0
  repeat' first
  | (with_reducible exact ih0 _ _ _)
  | (with_reducible first | exact LeO.refl _ | exact LeO.none _ | refine LeO.ite ?_ ?_ | refine LeO.bind ?_ (fun _ => ?_))
  | exact ih0 _ _ _
  | exact LeO.none _
  | refine LeO.ite ?_ ?_
  | refine LeO.bind ?_ (fun _ => ?_)
theorem pa_.mono : ∀ a0 k, LeO (pa_.f k a0) (pa_.f (k + 1) a0) := by
 intro a0 k
 have ih0 := pa_.yc_ k
 unfold pa_.f
 repeat' first
   | (with_reducible exact ih0 _ _ _)
   | (with_reducible first | exact LeO.refl _ | exact LeO.none _ | refine LeO.ite ?_ ?_ | refine LeO.bind ?_ (fun _ => ?_))
   | exact ih0 _ _ _
   | exact LeO.none _
   | refine LeO.ite ?_ ?_
   | refine LeO.bind ?_ (fun _ => ?_)
set_option maxHeartbeats 8000000 in
set_option maxRecDepth 100000 in
theorem pa_.calls (k : Nat) (a0 : Int) (r : Int) (w : World) (h : pa_.f k a0 = some r) :
  Calls Tryz.prog 113 #[.int .i64 a0] w fun e w' => e = .returned (.int .i64 r) ∧ ja_ w w' := by
 have H : (pa_.l0 k a0 1 0) = some r := h
 clear h
 have H' := ba_.mk H
 clear H
 go_enter Tryz.func113, Tryz.ntmps113
 go_wp2
 go_loopg [3, 5] k (fun kq v3 v5 w' => ∃ (x3_1 : Int) (x5_1 : Int), v3 = .int .i64 x3_1 ∧ v5 = .int .i64 x5_1 ∧ ba_ (pa_.l0 kq a0 x3_1 x5_1 = some r) ∧ ba_ (kq ≤ k) ∧ ja_ w w')
 case atStart => exact Xs
 case round =>
  clear H'
  try clear c1
  obtain ⟨x3_1, x5_1, rfl, rfl, HA, HK1, ⟨m1, rfl⟩⟩ := hrel
  cases gk with
  | zero => exact absurd HA.out (by simp [pa_.l0])
  | succ k1 =>
   have H := HA.out
   clear HA
   simp only [pa_.l0] at H
   by_cases c2 : x5_1 < 31
   rotate_left
   ·exact Xo
   rw [if_pos c2] at H
   have c2b0 := decide_eq_true c2
   clear c2
   by_cases c3 : x3_1 = a0
   ·exact Xz
   rw [if_neg c3] at H
   have c3b0 : (x3_1 == a0) = false := beq_eq_false_iff_ne.mpr c3
   have c3b1 : (x3_1 != a0) = true := bne_iff_ne.mpr c3
   obtain ⟨t106, A4, H⟩ := Qk H
   try dsimp only at H
   have H' := ba_.mk H
   clear H
   go_wp2_with (first | ((with_reducible refine ia_ (f := 114) rfl ?_); refine gc_ (some 13) rfl rfl Tryz.func114 Qb rfl #[.int .i64 x3_1] rfl Qj ?_; (with_reducible refine (nc_.calls x3_1 t106 _ A4.out).mono ?_); rintro e w' ⟨rfl, ⟨nd, rfl⟩⟩; refine ⟨_, rfl, ?_⟩))
   go_roundg k1
   case measure => have := HK1.out; omega
   case rel => exact ⟨(t106), (wrap64 (x5_1 + 1)), Qi, Qi, H', ⟨Qw⟩, Qp⟩
mutual
def lc_.j0 : Nat → List Int → List Int → Bool → Option (List Int × Int)
 | 0, _, _, _ => none
 | k + 1, x0, x4, x18 => if x18 = true then (some (([] : List Int), 2)) else (if 6 ≤ 35184372088832 then ((some (List.replicate 6 0 : List Int)).bind fun y112 => (lc_.l0 k x0 x4 y112 (y112.length : Int) 0)) else (none))
def lc_.l0 : Nat → List Int → List Int → List Int → Int → Int → Option (List Int × Int)
 | 0, _, _, _, _, _ => none
 | k + 1, x0, x4, x5, x21, x22 => if x22 < x21 then (if 0 ≤ x22 then (if x22 < (x5.length : Int) then (lc_.l0 k x0 x4 (x5.set (x22 : Int).toNat (wrap64 ((x0.length : Int) + x22))) x21 (wrap64 (x22 + 1))) else (none)) else (none)) else ((gj_.f x4 x5).bind fun t116 => (some (t116, 0)))
end
def lc_.f (k : Nat) (l0 : List Int) : Option (List Int × Int) := (tt_.f l0).bind fun t107 => ((yg_.f t107 (-1)).bind fun t110 => (if t110 = true then ((tc_.f k l0 (-1)).bind fun t111 => (lc_.j0 k l0 t107 t111)) else (lc_.j0 k l0 t107 true)))
theorem lc_.yc_ : ∀ k, (∀ y0 y1 y2, LeO (lc_.j0 k y0 y1 y2) (lc_.j0 (k + 1) y0 y1 y2)) ∧ (∀ y0 y1 y2 y3 y4, LeO (lc_.l0 k y0 y1 y2 y3 y4) (lc_.l0 (k + 1) y0 y1 y2 y3 y4))
 | 0 => ⟨fun _ _ _ r h => by simp [lc_.j0] at h, fun _ _ _ _ _ r h => by simp [lc_.l0] at h⟩
 | k + 1 => by
  obtain ⟨ih0, ih1⟩ := lc_.yc_ k
  refine ⟨?_, ?_⟩
  ·intro y0 y1 y2
   unfold lc_.j0
   repeat' first
   | (with_reducible exact ih0 _ _ _)
   | (with_reducible exact ih1 _ _ _ _ _)
   | (with_reducible exact tc_.mono _ _ _)
   | (with_reducible first | exact LeO.refl _ | exact LeO.none _ | refine LeO.ite ?_ ?_ | refine LeO.bind ?_ (fun _ => ?_))
   | exact ih0 _ _ _
   | exact ih1 _ _ _ _ _
   | exact tc_.mono _ _ _
   | exact LeO.none _
   | refine LeO.ite ?_ ?_
   | refine LeO.bind ?_ (fun _ => ?_)
  intro y0 y1 y2 y3 y4
  unfold lc_.l0
  repeat' first
  | (with_reducible exact ih0 _ _ _)
  | (with_reducible exact ih1 _ _ _ _ _)
  | (with_reducible exact tc_.mono _ _ _)
  | (with_reducible first | exact LeO.refl _ | exact LeO.none _ | refine LeO.ite ?_ ?_ | refine LeO.bind ?_ (fun _ => ?_))
  | exact ih0 _ _ _
  | exact ih1 _ _ _ _ _
  | exact tc_.mono _ _ _
  | exact LeO.none _
  | refine LeO.ite ?_ ?_
  | refine LeO.bind ?_ (fun _ => ?_)
theorem lc_.mono : ∀ a0 k, LeO (lc_.f k a0) (lc_.f (k + 1) a0) := by
 intro a0 k
 obtain ⟨ih0, ih1⟩ := lc_.yc_ k
 unfold lc_.f
 repeat' first
   | (with_reducible exact ih0 _ _ _)
   | (with_reducible exact ih1 _ _ _ _ _)
   | (with_reducible exact tc_.mono _ _ _)
   | (with_reducible first | exact LeO.refl _ | exact LeO.none _ | refine LeO.ite ?_ ?_ | refine LeO.bind ?_ (fun _ => ?_))
   | exact ih0 _ _ _
   | exact ih1 _ _ _ _ _
   | exact tc_.mono _ _ _
   | exact LeO.none _
   | refine LeO.ite ?_ ?_
   | refine LeO.bind ?_ (fun _ => ?_)
set_option maxHeartbeats 8000000 in
set_option maxRecDepth 100000 in
theorem lc_.calls (k : Nat) (A0 : Option Addr) (c0 : Nat) (l0 : List Int) (r1 : List Int) (r2 : Int) (w : World) (hr0 : Kd.C (Kd.int .i64) w A0 l0.length l0) (hc0 : l0.length ≤ c0) (h : lc_.f k l0 = some (r1, r2)) :
  Calls Tryz.prog 37 #[.slice A0 l0.length c0] w fun e w' => ∃ v0_ : Value, e = .returned (.tuple #[v0_, .int .i64 r2]) ∧ Kd.R (Kd.int .i64) 3 w' w.heap.size (fun _ => True) v0_ r1 ∧ Below w.heap.size w w' := by
 have HR0 := ba_.mk hr0
 have HC0 := ba_.mk hc0
 clear hr0 hc0
 have HB := ba_.mk (Below.refl w.heap.size w)
 have H : ((tt_.f l0).bind fun t107 => ((yg_.f t107 (-1)).bind fun t110 => (if t110 = true then ((tc_.f k l0 (-1)).bind fun t111 => (lc_.j0 k l0 t107 t111)) else (lc_.j0 k l0 t107 true)))) = some (r1, r2) := h
 clear h
 obtain ⟨t107, A2, H⟩ := Qk H
 try dsimp only at H
 have HC3 := ba_.mk H
 clear H
 go_enter Tryz.func37, Tryz.ntmps37
 go_upto_region 2 with (first | ((with_reducible refine md_ (N := 8) rfl ?_); refine Kd.sm_ (Kd.int .i64) w.heap.size 3 rfl (N := 8) rfl (xs := ([-1] : List Int)) (inner := [.int .i64 (-1)]) (ok := fun _ => True) (okp := fun _ => True) ?hr ?hp (fun _ hk => hk) trivial HB.out (Nat.le_refl _) Qo ?_; (case hr => exact Qt); (case hp => exact (Reps.one (show Kd.M (Kd.int .i64) _ _ _ (-1) [.int .i64 (-1)] from rfl) (Reps.none _ _))); intro v8 w8 ho hb hg_ hnew_; clear hg_ hnew_; clear HB; obtain ⟨g8, co8, eo8, _, _, _⟩ := Kd.mi_ ho Qh; subst eo8; have HOa := ba_.mk ho; have HB := ba_.mk hb; clear ho hb) | ((with_reducible refine ia_ (f := 67) rfl ?_); refine gc_ (some 9) rfl rfl Tryz.func67 Qb rfl #[.slice (some ⟨g8, 0, none⟩) 1 co8, .int .i64 6] rfl Xv ?_; (refine (ow_ (some ⟨g8, 0, none⟩) co8 (-1) _ (Kd.cc_ HOa.out).2.2 (Kd.cc_ HOa.out).2.1).mono ?_); rintro e w9 ⟨v9, rfl, ho, hb⟩; refine ⟨_, rfl, ?_⟩; obtain ⟨A9, co9, eo9⟩ := Kd.pd_ ho; subst eo9; have HOb := ba_.mk ho; have n1_ := ba_.mk (wa_ HB.out hb); clear HB; have HB := n1_; clear n1_ ho hb) | ((with_reducible refine md_ (N := 10) rfl ?_); refine pk_ (v := .slice (some ⟨w9.heap.size, 0, none⟩) 2 2) (w1 := w9.alloc (.cells #[.slice A0 l0.length c0, .slice A9 6 co9] 22)) rfl ?hr ?_; (case hr => exact Qt)) | ((with_reducible refine ia_ (f := 66) rfl ?_); refine gc_ (some 11) rfl rfl Tryz.func66 Qb rfl #[.slice (some ⟨w9.heap.size, 0, none⟩) 2 2] rfl Xv ?_; (refine (sl_ A0 c0 l0 A9 co9 (List.replicate 6 (-1 : Int)) w9 (Kd.oe_ HR0.out HB.out) HC0.out (Kd.cc_ HOb.out).2.2 (Kd.cc_ HOb.out).2.1 (by have := (tt_.some A2.out).2; simp only [List.length_replicate]; omega)).mono ?_); rintro e w10 ⟨v108, rfl, ho0, hb⟩; refine ⟨_, rfl, ?_⟩; have n0_ := ba_.mk (show Kd.R (Kd.int .i64) 3 w10 w.heap.size (fun _ => True) v108 t107 from by rw [(tt_.some A2.out).1]; exact Kd.td_ ho0 (za_ HB.out)); have n1_ := ba_.mk (wa_ HB.out hb); clear HB; have HO109 := n0_; have HB := n1_; clear n0_ n1_ ho0 hb))
 (try simp only [Act.put, List.setIfInBounds_toArray, List.set_cons_zero, List.set_cons_succ])
 go_cut [18] (fun v18 wc => ∃ (kq : Nat) (x18_2 : Bool), v18 = .bool x18_2 ∧ ba_ (lc_.j0 kq l0 t107 x18_2 = some (r1, r2)) ∧ ba_ (kq ≤ k) ∧ ba_ (Kd.R (Kd.int .i64) 3 wc w.heap.size (fun _ => True) v108 t107) ∧ ba_ (Below w.heap.size w wc))
 case first =>
  have H := HC3.out
  clear HC3
  obtain ⟨t110, A5, H⟩ := Qk H
  try dsimp only at H
  by_cases c6 : t110 = true
  rotate_left
  ·replace c6 := Bool.eq_false_iff.mpr c6
   subst c6
   have H1 : (lc_.j0 k l0 t107 true) = some (r1, r2) := by rw [if_neg (show ¬ (false = true) by decide)] at H; exact H
   clear H
   have H := H1
   clear H1
   have H' := ba_.mk H
   clear H
   obtain ⟨Ao10, co10, eo10⟩ := Kd.pd_ HO109.out
   subst eo10
   go_wp2_with (first | ((with_reducible refine ia_ (f := 44) rfl ?_); refine gc_ (some 13) rfl rfl Tryz.func44 Qb rfl #[.slice Ao10 t107.length co10, .int .i64 (-1)] rfl Qj ?_; (with_reducible refine (yg_.calls _ _ t107 (-1) false _ ?side1 ?side2 A5.out).mono ?_); (case side1 => repeat (first | exact (Kd.cc_ HO109.out).2.2 | (with_reducible refine Kd.gd_ ?_ _) | (with_reducible refine Kd.hd_ ?_ _) | (with_reducible refine Kd.yd_ ?_))); (case side2 => exact (Kd.cc_ HO109.out).2.1); rintro e w11 ⟨rfl, hb⟩; refine ⟨_, rfl, ?_⟩; have n0_ := ba_.mk (Kd.ne_ (Ql HO109.out) hb); have n1_ := ba_.mk (wa_ Qe hb); clear HO109; clear HB; have HO109 := n0_; have HB := n1_; clear n0_ n1_; (try clear hb); (try clear hb2); (try clear hk); (try clear hi)))
   go_meet
   case rel => exact ⟨_, (true), Qi, H', ⟨Xf⟩, ⟨by (with_reducible repeat (first | apply Kd.eb_ | apply Kd.fb_ | apply Kd.rb_)); exact HO109.out⟩, ⟨Qe⟩⟩
  subst c6
  have H1 : ((tc_.f k l0 (-1)).bind fun t111 => (lc_.j0 k l0 t107 t111)) = some (r1, r2) := by rw [if_pos rfl] at H; exact H
  clear H
  have H := H1
  clear H1
  obtain ⟨t111, A7, H⟩ := Qk H
  try dsimp only at H
  have H' := ba_.mk H
  clear H
  obtain ⟨Ao8, co8, eo8⟩ := Kd.pd_ HO109.out
  subst eo8
  go_wp2_with (first | ((with_reducible refine ia_ (f := 44) rfl ?_); refine gc_ (some 13) rfl rfl Tryz.func44 Qb rfl #[.slice Ao8 t107.length co8, .int .i64 (-1)] rfl Qj ?_; (with_reducible refine (yg_.calls _ _ t107 (-1) true _ ?side1 ?side2 A5.out).mono ?_); (case side1 => repeat (first | exact (Kd.cc_ HO109.out).2.2 | (with_reducible refine Kd.gd_ ?_ _) | (with_reducible refine Kd.hd_ ?_ _) | (with_reducible refine Kd.yd_ ?_))); (case side2 => exact (Kd.cc_ HO109.out).2.1); rintro e w9 ⟨rfl, hb⟩; refine ⟨_, rfl, ?_⟩; have n0_ := ba_.mk (Kd.ne_ (Ql HO109.out) hb); have n1_ := ba_.mk (wa_ Qe hb); clear HO109; clear HB; have HO109 := n0_; have HB := n1_; clear n0_ n1_; (try clear hb); (try clear hb2); (try clear hk); (try clear hi)) | (go_at_call 68; (with_reducible refine (tc_.calls k _ _ l0 (-1) t111 _ ?side1 ?side2 A7.out).mono ?_); (case side1 => exact Q9); (case side2 => exact HC0.out); rintro e w' ⟨rfl, ⟨nd, rfl⟩⟩))
  go_meet
  case rel => exact ⟨_, (t111), Qi, H', ⟨Xf⟩, ⟨by (with_reducible repeat (first | apply Kd.eb_ | apply Kd.fb_ | apply Kd.rb_)); exact HO109.out⟩, ⟨Qe⟩⟩
 case rest =>
  clear HC3
  try clear p2
  try clear c3
  try clear c4
  try clear c6
  obtain ⟨kq, x18_2, rfl, HA, HJ2, HO_4, HB⟩ := hcut
  cases kq with
  | zero => exact absurd HA.out (by simp [lc_.j0])
  | succ kj2 =>
   have H := HA.out
   clear HA
   simp only [lc_.j0] at H
   by_cases c12 : x18_2 = true
   ·subst c12
    have H1 : (some (([] : List Int), 2)) = some (r1, r2) := by rw [if_pos rfl] at H; exact H
    clear H
    have H := H1
    clear H1
    simp only [Option.some.injEq, Prod.mk.injEq] at H
    obtain ⟨rfl, rfl⟩ := H
    go_wp2
    go_ret2
    exact ⟨_, Qq, Q5, Qe⟩
   replace c12 := Bool.eq_false_iff.mpr c12
   subst c12
   have H1 : (if 6 ≤ 35184372088832 then ((some (List.replicate 6 0 : List Int)).bind fun y112 => (lc_.l0 kj2 l0 t107 y112 (y112.length : Int) 0)) else (none)) = some (r1, r2) := by rw [if_neg (show ¬ (false = true) by decide)] at H; exact H
   clear H
   have H := H1
   clear H1
   obtain ⟨c13, H⟩ := Qn H
   have c13b0 := eq_true c13
   have c13b1 := decide_eq_true c13
   clear c13
   obtain ⟨y112, hy112⟩ : ∃ y_ : List Int, y_ = (List.replicate 6 0) := ⟨_, rfl⟩
   replace H : (lc_.l0 kj2 l0 t107 y112 (y112.length : Int) 0) = some (r1, r2) := by first | (rw [hy112]; with_reducible exact H) | (have H2_ := (Option.bind_some _ _).symm.trans H; rw [hy112]; with_reducible exact H2_) | (have H2_ := (Option.bind_some _ _).symm.trans H; with_reducible exact H2_) | with_reducible exact H | (rw [hy112]; exact H) | exact H
   have Ny112 := ba_.mk hy112
   clear hy112
   have H' := ba_.mk H
   clear H
   go_wp2_with (first | ((with_reducible refine md_ (N := 19) rfl ?_); refine Kd.oo_ (Kd.int .i64) _ 3 rfl (N := 19) rfl 22 _ _ rfl 6 rfl rfl Tryz.underlying22 (.int .i64 0) 8 gi_ rfl Qh Qa 0 (ok := fun _ => True) (okp := fun _ => True) rfl (fun _ hk => hk) trivial Qa Qa (Below.refl _ _) (Nat.le_refl _) ?_; intro v113 w14 ho15 hb hg_ hnew_; clear hg_ hnew_; (first | rw [← Ny112.out] at ho15 | (simp only [Int.reduceToNat] at ho15; rw [← Ny112.out] at ho15)); have n0_ := ba_.mk (Kd.ke_ (Ql HO_4.out) (Kd.if_ ho15) hb); have n1_ := ba_.mk (Kd.td_ (Kd.hf_ ho15 (Kd.R_lt (Ql HO_4.out))) (za_ Qe)); have n2_ := ba_.mk (wa_ Qe hb); clear HO_4; clear HB; have HO_4 := n0_; have HO114 := n1_; have HB := n2_; clear n0_ n1_ n2_; clear hb ho15; obtain ⟨Ao16, co16, eo16⟩ := Kd.pd_ HO114.out; subst eo16))
   go_loopg [22] kj2 (fun kq v22 w' => ∃ (x5_2 : List Int) (x22_2 : Int), v22 = .int .i64 x22_2 ∧ ba_ (lc_.l0 kq l0 t107 x5_2 (y112.length : Int) x22_2 = some (r1, r2)) ∧ ba_ (kq ≤ kj2) ∧ ba_ (Kd.R (Kd.int .i64) 3 w' w.heap.size (fun k_ => some k_ ≠ ((.slice Ao16 y112.length co16) : Value).ownBlock) v108 t107) ∧ ba_ (Kd.R (Kd.int .i64) 3 w' w.heap.size (fun k_ => some k_ ≠ (v108 : Value).ownBlock) (.slice Ao16 y112.length co16) x5_2) ∧ ba_ (Below w.heap.size w w'))
   case atStart => exact ⟨(y112), (0), Qi, H', ⟨Nat.le_refl _⟩, ⟨by (with_reducible repeat (first | apply Kd.eb_ | apply Kd.fb_ | apply Kd.rb_)); exact Kd.rd_ HO_4.out (fun _ hk => hk.2)⟩, ⟨by (with_reducible repeat (first | apply Kd.eb_ | apply Kd.fb_ | apply Kd.rb_)); exact Kd.rd_ HO114.out (fun _ hk => hk.2)⟩, ⟨Qe⟩⟩
   case round =>
    clear H'
    try clear c1
    try clear p2
    try clear c3
    try clear c4
    try clear c6
    try clear c12
    try clear c13
    try clear c13b0
    try clear c13b1
    try clear p2
    obtain ⟨x5_2, x22_2, rfl, HA, HK2, HO_4, HO_5, HB⟩ := hrel
    have hl5_2 := (Kd.cc_ HO_5.out).1
    rw [hl5_2] at HO_5
    (try simp only [hl5_2])
    (try simp only [hl5_2] at HO_4)
    cases gk with
    | zero => exact absurd HA.out (by simp [lc_.l0])
    | succ k2 =>
     have H := HA.out
     clear HA
     simp only [lc_.l0] at H
     by_cases c17 : x22_2 < (y112.length : Int)
     rotate_left
     ·rw [if_neg c17] at H
      have c17b0 := decide_eq_false c17
      (try simp only [hl5_2] at c17b0)
      clear c17
      obtain ⟨t116, A23, H⟩ := Qk H
      try dsimp only at H
      simp only [Option.some.injEq, Prod.mk.injEq] at H
      obtain ⟨rfl, rfl⟩ := H
      obtain ⟨Ao24, co24, eo24⟩ := Kd.pd_ HO_4.out
      subst eo24
      go_wp2_with (first | ((with_reducible refine ia_ (f := 69) rfl ?_); refine gc_ (some 35) rfl rfl Tryz.func69 Qb rfl #[.slice Ao24 t107.length co24, .slice Ao16 x5_2.length co16] rfl Qj ?_; (with_reducible refine (gj_.calls _ _ t107 _ _ x5_2 t116 _ ?side1 ?side2 ?side3 ?side4 A23.out).mono ?_); (case side1 => repeat (first | exact (Kd.cc_ HO_4.out).2.2 | (with_reducible refine Kd.gd_ ?_ _) | (with_reducible refine Kd.hd_ ?_ _) | (with_reducible refine Kd.yd_ ?_))); (case side2 => exact (Kd.cc_ HO_4.out).2.1); (case side3 => exact X5); (case side4 => exact (Kd.cc_ HO_5.out).2.1); rintro e w25 ⟨v117, rfl, ho0, hb⟩; refine ⟨_, rfl, ?_⟩; have n0_ := ba_.mk (Kd.ke_ (Ql HO_4.out) (Kd.if_ ho0) hb); have n1_ := ba_.mk (Kd.ke_ (Ql HO_5.out) (Kd.if_ ho0) hb); have n2_ := ba_.mk (Kd.td_ (Kd.hf_ (Kd.hf_ ho0 (Kd.R_lt (Ql HO_4.out))) (Kd.R_lt (Ql HO_5.out))) (za_ Qe)); have n3_ := ba_.mk (wa_ Qe hb); clear HO_4; clear HO_5; clear HB; have HO_4 := n0_; have HO_5 := n1_; have HO118 := n2_; have HB := n3_; clear n0_ n1_ n2_ n3_; (try clear hb); (try clear hb2); (try clear hk); (try clear hi); (try clear ho0)))
      go_ret2
      exact ⟨_, Qq, by (with_reducible repeat (first | apply Kd.eb_ | apply Kd.fb_ | apply Kd.rb_)); exact Kd.rd_ HO118.out (fun _ hk => trivial), Qe⟩
     rw [if_pos c17] at H
     have c17b0 := decide_eq_true c17
     (try simp only [hl5_2] at c17b0)
     clear c17
     obtain ⟨c18, H⟩ := Qn H
     have c18b0 := decide_eq_true c18
     clear c18
     obtain ⟨c19, H⟩ := Qn H
     have c19b0 := decide_eq_true c19
     clear c19
     obtain ⟨y115, hy115⟩ : ∃ y_ : List Int, y_ = (x5_2.set (x22_2 : Int).toNat (wrap64 ((l0.length : Int) + x22_2))) := ⟨_, rfl⟩
     replace H : (lc_.l0 k2 l0 t107 y115 (y112.length : Int) (wrap64 (x22_2 + 1))) = some (r1, r2) := by first | (rw [hy115]; with_reducible exact H) | (have H2_ := (Option.bind_some _ _).symm.trans H; rw [hy115]; with_reducible exact H2_) | (have H2_ := (Option.bind_some _ _).symm.trans H; with_reducible exact H2_) | with_reducible exact H | (rw [hy115]; exact H) | exact H
     have Ny115 := ba_.mk hy115
     clear hy115
     have H' := ba_.mk H
     clear H
     have p20 : 0 ≤ (x22_2 : Int) := of_decide_eq_true Qg
     have q20 : (x22_2 : Int) < ((x5_2.length : Int) : Int) := of_decide_eq_true Qg
     obtain ⟨go20, co20, eo20, gb20, gl20, cl20, HG20⟩ := Kd.mi_ HO_5.out Qa
     (first | cases eo20 | (injection eo20 with ea_ en_ ec_; (first | subst ea_ | (injection ea_ with ea_; subst ea_)); subst ec_; clear en_))
     have GB20 := ba_.mk gb20
     have GG20 := ba_.mk HG20
     clear gb20 gl20 HG20
     obtain ⟨hx20_0, hf20_0⟩ := Kd.sg_ 0 HO_5.out (x22_2 : Int) p20 q20
     replace p20 := eq_true p20
     replace q20 := eq_true q20
     have HP21 := Kd.da1_ HO_5.out (x22_2 : Int) (wrap64 ((l0.length : Int) + x22_2))
     go_wp2_with (first | ((with_reducible refine an_ (t := 3) (p := 31) rfl ?_); refine yl_ (t := 3) (p := 31) (v := ?vo_w22) (w1 := (wr.setCell ⟨go20, (x22_2 : Int).toNat, none⟩ (.int .i64 (wrap64 ((l0.length : Int) + x22_2))))) ?hg ?ho ?hn ?hr ?_; (case ho => rfl); (case hg => rfl); (case hn => rfl); (case hr => exact Qt); intro w22 hw; have hg : wr.grownBy w22 (some go20) := (by rw [hw]; exact HP21.2); have hp_ : Kd.R (Kd.int .i64) 3 w22 w.heap.size (fun k_ => some k_ ≠ (v108 : Value).ownBlock) (.slice (some ⟨go20, 0, none⟩) x5_2.length co16) y115 := (by rw [hw, Ny115.out]; exact HP21.1); clear HP21; have n0_ := ba_.mk (Kd.rl_ (v := (.slice (some ⟨go20, 0, none⟩) x5_2.length co16)) (v1 := (.slice (some ⟨go20, 0, none⟩) x5_2.length co16)) (ok := (fun _ => True)) (by (with_reducible repeat (first | apply Kd.eb_ | apply Kd.fb_ | apply Kd.rb_)); exact Kd.rd_ HO_4.out (fun _ hk => ⟨trivial, hk⟩)) hg (.inl rfl)); have n1_ := ba_.mk (hp_); have n2_ := ba_.mk ((by rw [hw]; exact sa_ (HB.out) GB20.out : Below w.heap.size w w22)); clear HO_4; clear HO_5; clear HB; have HO_4 := n0_; have HO_5 := n1_; have HB := n2_; clear n0_ n1_ n2_; clear hg hw hp_))
     (try simp only [← hl5_2])
     go_roundg k2
     case measure => exact X6
     case rel => exact ⟨(y115), (wrap64 (x22_2 + 1)), Qi, H', ⟨X7⟩, ⟨by (try simp only [hl5_2]); (with_reducible repeat (first | apply Kd.eb_ | apply Kd.fb_ | apply Kd.rb_)); exact Kd.rd_ HO_4.out (fun _ hk => hk.2)⟩, ⟨by (try simp only [hl5_2]); (with_reducible repeat (first | apply Kd.eb_ | apply Kd.fb_ | apply Kd.rb_)); exact HO_5.out⟩, ⟨Qe⟩⟩
end Go.Proofs.YtpkhgapifnjbeaaGreatDoor.E
end
section
namespace Go.Proofs.YtpkhgapifnjbeaaGreatDoor.E
open RowKit G Rs Zw.PrintWords Zw.PrintLast Zw.PrintMore
attribute [local go_sem] id_ kd_ vd_ wd_ bd_ cd_ jd_ ld_
end Go.Proofs.YtpkhgapifnjbeaaGreatDoor.E
end
section
namespace Go.Proofs.YtpkhgapifnjbeaaGreatDoor.U
open RowKit G Rs Zw.PrintWords Zw.PrintLast Zw.PrintMore
attribute [local go_sem] id_ kd_ vd_ wd_ bd_ cd_ jd_ ld_
def errW : Option Int → Value
 | none => .nilIface
 | some c => .iface 0 (.int .i64 c)
theorem ta_ : errW none = .nilIface := rfl
theorem ua_ (c : Int) : errW (some c) = .iface 0 (.int .i64 c) := rfl
theorem gi_ : (Tryz.prog.info? 3).map (fun i => (i.zero, i.size, i.bytes)) = some (some (.int .i64 0), 1, 8) := by kernel_rfl
end Go.Proofs.YtpkhgapifnjbeaaGreatDoor.U
end
section
namespace Go.Proofs.YtpkhgapifnjbeaaGreatDoor.U
open RowKit G Rs Zw.PrintWords Zw.PrintLast Zw.PrintMore
attribute [local go_sem] id_ kd_ vd_ wd_ bd_ cd_ jd_ ld_
def ic_.l0 : Nat → List Int → List Int → Int → Int → Option (Int)
 | 0, _, _, _, _ => none
 | k + 1, x0, x1, x5, x6 => if x6 < (x0.length : Int) then (if 0 ≤ x6 then (if (rd x0 x6) ≥ 0 then (if x6 < (x1.length : Int) then (if (rd x0 x6) = (rd x1 x6) then (ic_.l0 k x0 x1 x5 (wrap64 (x6 + 1))) else (ic_.l0 k x0 x1 (wrap64 (x5 + 1)) (wrap64 (x6 + 1)))) else (none)) else (ic_.l0 k x0 x1 x5 (wrap64 (x6 + 1)))) else (none)) else (some x5)
def ic_.f (k : Nat) (l0 : List Int) (l1 : List Int) : Option (Int) := ic_.l0 k l0 l1 0 0
theorem ic_.yc_ : ∀ k, (∀ y0 y1 y2 y3, LeO (ic_.l0 k y0 y1 y2 y3) (ic_.l0 (k + 1) y0 y1 y2 y3))
 | 0 => fun _ _ _ _ r h => by simp [ic_.l0] at h
 | k + 1 => by
  have ih0 := ic_.yc_ k
  intro y0 y1 y2 y3
  unfold ic_.l0
  repeat' first
  | (with_reducible exact ih0 _ _ _ _)
  | (with_reducible first | exact LeO.refl _ | exact LeO.none _ | refine LeO.ite ?_ ?_ | refine LeO.bind ?_ (fun _ => ?_))
  | exact ih0 _ _ _ _
  | exact LeO.none _
  | refine LeO.ite ?_ ?_
  | refine LeO.bind ?_ (fun _ => ?_)
theorem ic_.mono : ∀ a0 a1 k, LeO (ic_.f k a0 a1) (ic_.f (k + 1) a0 a1) := by
 intro a0 a1 k
 have ih0 := ic_.yc_ k
 unfold ic_.f
 repeat' first
   | (with_reducible exact ih0 _ _ _ _)
   | (with_reducible first | exact LeO.refl _ | exact LeO.none _ | refine LeO.ite ?_ ?_ | refine LeO.bind ?_ (fun _ => ?_))
   | exact ih0 _ _ _ _
   | exact LeO.none _
   | refine LeO.ite ?_ ?_
   | refine LeO.bind ?_ (fun _ => ?_)
set_option maxHeartbeats 8000000 in
set_option maxRecDepth 100000 in
theorem ic_.calls (k : Nat) (A0 : Option Addr) (c0 : Nat) (l0 : List Int) (A1 : Option Addr) (c1 : Nat) (l1 : List Int) (r : Int) (w : World) (hr0 : Kd.C (Kd.int .i64) w A0 l0.length l0) (hc0 : l0.length ≤ c0) (hr1 : Kd.C (Kd.int .i64) w A1 l1.length l1) (hc1 : l1.length ≤ c1) (h : ic_.f k l0 l1 = some r) :
  Calls Tryz.prog 90 #[.slice A0 l0.length c0, .slice A1 l1.length c1] w fun e w' => e = .returned (.int .i64 r) ∧ ja_ w w' := by
 have HR0 := ba_.mk hr0
 have HC0 := ba_.mk hc0
 clear hr0 hc0
 have HR1 := ba_.mk hr1
 have HC1 := ba_.mk hc1
 clear hr1 hc1
 have H : (ic_.l0 k l0 l1 0 0) = some r := h
 clear h
 have H' := ba_.mk H
 clear H
 go_enter Tryz.func90, Tryz.ntmps90
 go_wp2
 repeat (go_quiet (fail); try go_wp2)
 go_loopg [5, 6] k (fun kq v5 v6 w' => ∃ (x5_1 : Int) (x6_1 : Int), v5 = .int .i64 x5_1 ∧ v6 = .int .i64 x6_1 ∧ ba_ (ic_.l0 kq l0 l1 x5_1 x6_1 = some r) ∧ ba_ (kq ≤ k) ∧ ja_ w w')
 case atStart => exact ⟨(0), (0), Qi, Qi, H', ⟨Nat.le_refl _⟩, Qp⟩
 case round =>
  clear H'
  try clear c1
  try clear p2
  obtain ⟨x5_1, x6_1, rfl, rfl, HA, HK1, ⟨m1, rfl⟩⟩ := hrel
  cases gk with
  | zero => exact absurd HA.out (by simp [ic_.l0])
  | succ k1 =>
   have H := HA.out
   clear HA
   simp only [ic_.l0] at H
   by_cases c3 : x6_1 < (l0.length : Int)
   rotate_left
   ·rw [if_neg c3] at H
    have c3b0 := decide_eq_false c3
    clear c3
    obtain rfl := Option.some.inj H
    go_wp2
    repeat (go_quiet (fail); try go_wp2)
    go_ret
    exact ⟨Qi, Qp⟩
   rw [if_pos c3] at H
   have c3b0 := decide_eq_true c3
   clear c3
   obtain ⟨c4, H⟩ := Qn H
   have c4b0 := decide_eq_true c4
   clear c4
   by_cases c5 : (rd l0 x6_1) ≥ 0
   rotate_left
   ·rw [if_neg c5] at H
    have c5b0 : decide (0 ≤ (rd l0 x6_1)) = false := decide_eq_false c5
    clear c5
    have H' := ba_.mk H
    clear H
    have p101 : 0 ≤ (x6_1 : Int) := of_decide_eq_true Qg
    have q101 : x6_1 < (l0.length : Int) := of_decide_eq_true Qg
    obtain ⟨ad101, e101, hx101_0⟩ := Kd.sd_ HR0.out x6_1 p101 q101
    cases e101
    replace p101 := eq_true p101
    replace q101 := eq_true q101
    go_wp2
    repeat (go_quiet (fail); try go_wp2)
    go_roundg k1
    case measure => have := HK1.out; omega
    case rel => exact ⟨(x5_1), (wrap64 (x6_1 + 1)), Qi, Qi, H', ⟨Qw⟩, Qp⟩
   rw [if_pos c5] at H
   have c5b0 : decide (0 ≤ (rd l0 x6_1)) = true := decide_eq_true c5
   clear c5
   obtain ⟨c6, H⟩ := Qn H
   have c6b0 := decide_eq_true c6
   clear c6
   by_cases c7 : (rd l0 x6_1) = (rd l1 x6_1)
   rotate_left
   ·rw [if_neg c7] at H
    have c7b0 : ((rd l0 x6_1) == (rd l1 x6_1)) = false := beq_eq_false_iff_ne.mpr c7
    have c7b1 : ((rd l0 x6_1) != (rd l1 x6_1)) = true := bne_iff_ne.mpr c7
    have H' := ba_.mk H
    clear H
    have p101 : 0 ≤ (x6_1 : Int) := of_decide_eq_true Qg
    have q101 : x6_1 < (l0.length : Int) := of_decide_eq_true Qg
    obtain ⟨ad101, e101, hx101_0⟩ := Kd.sd_ HR0.out x6_1 p101 q101
    cases e101
    replace p101 := eq_true p101
    replace q101 := eq_true q101
    have p102 : 0 ≤ (x6_1 : Int) := of_decide_eq_true Qg
    have q102 : x6_1 < (l0.length : Int) := of_decide_eq_true Qg
    obtain ⟨ad102, e102, hx102_0⟩ := Kd.sd_ HR0.out x6_1 p102 q102
    obtain rfl : ad101 = ad102 := (by injection e102)
    replace p102 := eq_true p102
    replace q102 := eq_true q102
    have p103 : 0 ≤ (x6_1 : Int) := of_decide_eq_true Qg
    have q103 : x6_1 < (l1.length : Int) := of_decide_eq_true Qg
    obtain ⟨ad103, e103, hx103_0⟩ := Kd.sd_ HR1.out x6_1 p103 q103
    cases e103
    replace p103 := eq_true p103
    replace q103 := eq_true q103
    go_wp2
    repeat (go_quiet (fail); try go_wp2)
    go_roundg k1
    case measure => have := HK1.out; omega
    case rel => exact ⟨(wrap64 (x5_1 + 1)), (wrap64 (x6_1 + 1)), Qi, Qi, H', ⟨Qw⟩, Qp⟩
   rw [if_pos c7] at H
   have c7b0 : ((rd l0 x6_1) == (rd l1 x6_1)) = true := beq_iff_eq.mpr c7
   have c7b1 : ((rd l0 x6_1) != (rd l1 x6_1)) = false := bne_eq_false_iff_eq.mpr c7
   clear c7
   have H' := ba_.mk H
   clear H
   have p101 : 0 ≤ (x6_1 : Int) := of_decide_eq_true Qg
   have q101 : x6_1 < (l0.length : Int) := of_decide_eq_true Qg
   obtain ⟨ad101, e101, hx101_0⟩ := Kd.sd_ HR0.out x6_1 p101 q101
   cases e101
   replace p101 := eq_true p101
   replace q101 := eq_true q101
   have p102 : 0 ≤ (x6_1 : Int) := of_decide_eq_true Qg
   have q102 : x6_1 < (l0.length : Int) := of_decide_eq_true Qg
   obtain ⟨ad102, e102, hx102_0⟩ := Kd.sd_ HR0.out x6_1 p102 q102
   obtain rfl : ad101 = ad102 := (by injection e102)
   replace p102 := eq_true p102
   replace q102 := eq_true q102
   have p103 : 0 ≤ (x6_1 : Int) := of_decide_eq_true Qg
   have q103 : x6_1 < (l1.length : Int) := of_decide_eq_true Qg
   obtain ⟨ad103, e103, hx103_0⟩ := Kd.sd_ HR1.out x6_1 p103 q103
   cases e103
   replace p103 := eq_true p103
   replace q103 := eq_true q103
   go_wp2
   repeat (go_quiet (fail); try go_wp2)
   go_roundg k1
   case measure => have := HK1.out; omega
   case rel => exact ⟨(x5_1), (wrap64 (x6_1 + 1)), Qi, Qi, H', ⟨Qw⟩, Qp⟩
def hc_.l0 : Nat → List Int → List Int → Int → Option (List Int)
 | 0, _, _, _ => none
 | k + 1, x0, x3, x4 => if x4 < (x0.length : Int) then (if 0 ≤ x4 then (if (rd x0 x4) < 0 then (if x3.length < 17592186044416 then (hc_.l0 k x0 (x3 ++ [x4]) (wrap64 (x4 + 1))) else (none)) else (hc_.l0 k x0 x3 (wrap64 (x4 + 1)))) else (none)) else (some x3)
def hc_.f (k : Nat) (l0 : List Int) : Option (List Int) := hc_.l0 k l0 ([] : List Int) 0
theorem hc_.yc_ : ∀ k, (∀ y0 y1 y2, LeO (hc_.l0 k y0 y1 y2) (hc_.l0 (k + 1) y0 y1 y2))
 | 0 => fun _ _ _ r h => by simp [hc_.l0] at h
 | k + 1 => by
  have ih0 := hc_.yc_ k
  intro y0 y1 y2
  unfold hc_.l0
  repeat' first
  | (with_reducible exact ih0 _ _ _)
  | (with_reducible first | exact LeO.refl _ | exact LeO.none _ | refine LeO.ite ?_ ?_ | refine LeO.bind ?_ (fun _ => ?_))
  | exact ih0 _ _ _
  | exact LeO.none _
  | refine LeO.ite ?_ ?_
  | refine LeO.bind ?_ (fun _ => ?_)
theorem hc_.mono : ∀ a0 k, LeO (hc_.f k a0) (hc_.f (k + 1) a0) := by
 intro a0 k
 have ih0 := hc_.yc_ k
 unfold hc_.f
 repeat' first
   | (with_reducible exact ih0 _ _ _)
   | (with_reducible first | exact LeO.refl _ | exact LeO.none _ | refine LeO.ite ?_ ?_ | refine LeO.bind ?_ (fun _ => ?_))
   | exact ih0 _ _ _
   | exact LeO.none _
   | refine LeO.ite ?_ ?_
   | refine LeO.bind ?_ (fun _ => ?_)
set_option maxHeartbeats 8000000 in
set_option maxRecDepth 100000 in
theorem hc_.calls (k : Nat) (A0 : Option Addr) (c0 : Nat) (l0 : List Int) (r : List Int) (w : World) (hr0 : Kd.C (Kd.int .i64) w A0 l0.length l0) (hc0 : l0.length ≤ c0) (h : hc_.f k l0 = some r) :
  Calls Tryz.prog 88 #[.slice A0 l0.length c0] w fun e w' => ∃ v0_ : Value, e = .returned (v0_) ∧ Kd.R (Kd.int .i64) 3 w' w.heap.size (fun _ => True) v0_ r ∧ Below w.heap.size w w' := by
 have HR0 := ba_.mk hr0
 have HC0 := ba_.mk hc0
 clear hr0 hc0
 have HB := ba_.mk (Below.refl w.heap.size w)
 have H : (hc_.l0 k l0 ([] : List Int) 0) = some r := h
 clear h
 have H' := ba_.mk H
 clear H
 go_enter Tryz.func88, Tryz.ntmps88
 go_wp2
 go_loopg [3, 4] k (fun kq v3 v4 w' => ∃ (x3_1 : List Int) (x4_1 : Int), v4 = .int .i64 x4_1 ∧ ba_ (hc_.l0 kq l0 x3_1 x4_1 = some r) ∧ ba_ (kq ≤ k) ∧ ba_ (Kd.R (Kd.int .i64) 3 w' w.heap.size (fun _ => True) v3 x3_1) ∧ ba_ (Below w.heap.size w w'))
 case atStart => exact ⟨(([] : List Int)), (0), Qi, H', ⟨Nat.le_refl _⟩, ⟨Q5⟩, ⟨Qe⟩⟩
 case round =>
  clear H'
  obtain ⟨x3_1, x4_1, rfl, HA, HK1, HO_3, HB⟩ := hrel
  cases gk with
  | zero => exact absurd HA.out (by simp [hc_.l0])
  | succ k1 =>
   have H := HA.out
   clear HA
   simp only [hc_.l0] at H
   by_cases c2 : x4_1 < (l0.length : Int)
   rotate_left
   ·rw [if_neg c2] at H
    have c2b0 := decide_eq_false c2
    clear c2
    obtain rfl := Option.some.inj H
    go_wp2
    go_ret
    exact ⟨_, Qq, Yf, Qe⟩
   rw [if_pos c2] at H
   have c2b0 := decide_eq_true c2
   clear c2
   obtain ⟨c3, H⟩ := Qn H
   have c3b0 := decide_eq_true c3
   clear c3
   by_cases c4 : (rd l0 x4_1) < 0
   rotate_left
   ·rw [if_neg c4] at H
    have c4b0 := decide_eq_false c4
    clear c4
    have H' := ba_.mk H
    clear H
    have p104 : 0 ≤ (x4_1 : Int) := of_decide_eq_true Qg
    have q104 : x4_1 < (l0.length : Int) := of_decide_eq_true Qg
    obtain ⟨ad104, e104, hx104_0⟩ := Kd.sd_ HR0.out x4_1 p104 q104
    cases e104
    replace hx104_0 := (HB.out.cell (World.block_lt_of_cell? w _ hx104_0)).trans hx104_0
    replace p104 := eq_true p104
    replace q104 := eq_true q104
    go_wp2
    go_roundg k1
    case measure => have := HK1.out; omega
    case rel => exact ⟨(x3_1), (wrap64 (x4_1 + 1)), Qi, H', ⟨Qw⟩, ⟨Yf⟩, ⟨Qe⟩⟩
   rw [if_pos c4] at H
   have c4b0 := decide_eq_true c4
   clear c4
   obtain ⟨c5, H⟩ := Qn H
   have LMc5 := ba_.mk c5
   clear c5
   obtain ⟨y105, hy105⟩ : ∃ y_ : List Int, y_ = (x3_1 ++ [x4_1]) := ⟨_, rfl⟩
   replace H : (hc_.l0 k1 l0 y105 (wrap64 (x4_1 + 1))) = some r := by first | (rw [hy105]; with_reducible exact H) | (have H2_ := (Option.bind_some _ _).symm.trans H; rw [hy105]; with_reducible exact H2_) | (have H2_ := (Option.bind_some _ _).symm.trans H; with_reducible exact H2_) | with_reducible exact H | (rw [hy105]; exact H) | exact H
   have Ny105 := ba_.mk hy105
   clear hy105
   have H' := ba_.mk H
   clear H
   have p104 : 0 ≤ (x4_1 : Int) := of_decide_eq_true Qg
   have q104 : x4_1 < (l0.length : Int) := of_decide_eq_true Qg
   obtain ⟨ad104, e104, hx104_0⟩ := Kd.sd_ HR0.out x4_1 p104 q104
   cases e104
   replace hx104_0 := (HB.out.cell (World.block_lt_of_cell? w _ hx104_0)).trans hx104_0
   replace p104 := eq_true p104
   replace q104 := eq_true q104
   go_wp2_with (first | ((with_reducible refine xd_ (b := .append) (xs := #[.tmp 16, .tmp 18]) rfl ?_); at_builtin; refine Kd.qf_ (Kd.int .i64) (w0 := w) w.heap.size rfl (.tmp 16) (.tmp 18) 22 3 (.int .i64 0) 8 rfl Tryz.underlying22 gi_ rfl Qh Qa u3 x3_1 x4_1 [.int .i64 x4_1] (fun _ => True) (fun _ => False) rfl rfl ?aP (fun _ hk => hk.elim) ?aF ?aO ?aB ?aS ?aL ?_; (case aP => exact rfl); (case aB => exact Q3); (case aF => exact Xc); (case aO => exact (Ql HO_3.out)); (case aS => exact Q4); (case aL => have := LMc5.out; omega); intro v106 w6 ho hb hg hat; rw [← Ny105.out] at ho; have n0_ := ba_.mk (hb); have n1_ := ba_.mk (ho); clear HB; clear HO_3; have HB := n0_; have HO107 := n1_; clear n0_ n1_; clear ho hb hg hat))
   go_roundg k1
   case measure => have := HK1.out; omega
   case rel => exact ⟨(y105), (wrap64 (x4_1 + 1)), Qi, H', ⟨Qw⟩, ⟨by (with_reducible repeat (first | apply Kd.eb_ | apply Kd.fb_ | apply Kd.rb_)); exact HO107.out⟩, ⟨Qe⟩⟩
def nc_.f (a0 : Int) : Option (Int) := if (wrap64 (a0 * 2)) ≥ 32 then (some (Go.bits .xor .i64 (wrap64 (a0 * 2)) 37)) else (some (wrap64 (a0 * 2)))
set_option maxHeartbeats 8000000 in
set_option maxRecDepth 100000 in
theorem nc_.calls (a0 : Int) (r : Int) (w : World) (h : nc_.f a0 = some r) :
  Calls Tryz.prog 114 #[.int .i64 a0] w fun e w' => e = .returned (.int .i64 r) ∧ ja_ w w' := by
 have H : (if (wrap64 (a0 * 2)) ≥ 32 then (some (Go.bits .xor .i64 (wrap64 (a0 * 2)) 37)) else (some (wrap64 (a0 * 2)))) = some r := h
 clear h
 by_cases c2 : (wrap64 (a0 * 2)) ≥ 32
 ·exact Xg
 ·exact Xh
end Go.Proofs.YtpkhgapifnjbeaaGreatDoor.U
end
section
namespace Go.Proofs.YtpkhgapifnjbeaaGreatDoor.U
open RowKit G Rs Zw.PrintWords Zw.PrintLast Zw.PrintMore
attribute [local go_sem] id_ kd_ vd_ wd_ bd_ cd_ jd_ ld_
end Go.Proofs.YtpkhgapifnjbeaaGreatDoor.U
end
section
namespace Go.Proofs.YtpkhgapifnjbeaaGreatDoor.G
open RowKit Zw.PrintWords Zw.PrintLast Zw.PrintMore Rs U
def errN (w c : List Int) : Nat → Nat
 | 0 => 0
 | m + 1 => errN w c m + if 0 ≤ w.getD m 0 ∧ w.getD m 0 ≠ c.getD m 0 then 1 else 0
theorem vg1_ (w c : List Int) (m : Nat) : errN w c m ≤ m := by
 induction m with
 | zero => exact Nat.le_refl _
 | succ m ih => simp only [errN]; split <;> omega
def eraN (w : List Int) : Nat → List Int
 | 0 => []
 | m + 1 => eraN w m ++ if w.getD m 0 < 0 then [(m : Int)] else []
theorem uv_ (w : List Int) (m : Nat) : (eraN w m).length ≤ m := by
 induction m with
 | zero => exact Nat.le_refl _
 | succ m ih => simp only [eraN, List.length_append]; split <;> simp <;> omega
theorem err_l0 (w c : List Int) (hl : w.length ≤ 1000) (hc : w.length ≤ c.length) : ∀ (d i k : Nat), i + d = w.length → d < k → ic_.l0 k w c ((errN w c i : Nat) : Int) (i : Int) = some ((errN w c w.length : Nat) : Int) := by
 intro d
 induction d with
 | zero =>
  intro i k hi hk
  obtain ⟨k, rfl⟩ : ∃ m, k = m + 1 := ⟨k - 1, Qa⟩
  simp only [ic_.l0]
  rw [if_neg Qa]
  obtain rfl : i = w.length := by omega
  rfl
 | succ d ih =>
  intro i k hi hk
  obtain ⟨k, rfl⟩ : ∃ m, k = m + 1 := ⟨k - 1, Qa⟩
  have hn := vg1_ w c i
  have hs : wrap64 ((i : Int) + 1) = ((i + 1 : Nat) : Int) := by unfold wrap64; omega
  have hs2 : wrap64 (((errN w c i : Nat) : Int) + 1) = ((errN w c i + 1 : Nat) : Int) := by unfold wrap64; omega
  have := ih (i + 1) k Qa Qa
  simp only [errN] at this
  simp only [ic_.l0]
  rw [if_pos Qa, if_pos Qa, hs, hs2]
  simp only [ye_]
  by_cases h0 : 0 ≤ w.getD i 0
  rotate_left
  ·rw [if_neg h0]; rw [if_neg (fun h => h0 h.1), Nat.add_zero] at this; exact this
  rw [if_pos h0, if_pos Qa]
  by_cases h1 : w.getD i 0 = c.getD i 0
  ·rw [if_pos h1]; rw [if_neg (by simp only [h1]; simp), Nat.add_zero] at this; exact this
  ·rw [if_neg h1]; rw [if_pos ⟨h0, h1⟩] at this; exact this
def lz_.f (w c : List Int) : Option Int := if w.length ≤ 1000 ∧ w.length ≤ c.length then some ((errN w c w.length : Nat) : Int) else none
theorem lz_.calls (A0 : Option Addr) (c0 : Nat) (l0 : List Int) (A1 : Option Addr) (c1 : Nat) (l1 : List Int) (r : Int) (w : World) (hr0 : Kd.C (Kd.int .i64) w A0 l0.length l0) (hc0 : l0.length ≤ c0) (hr1 : Kd.C (Kd.int .i64) w A1 l1.length l1) (hc1 : l1.length ≤ c1) (h : lz_.f l0 l1 = some r) :
  Calls Tryz.prog 90 #[.slice A0 l0.length c0, .slice A1 l1.length c1] w fun e w' => e = .returned (.int .i64 r) ∧ ja_ w w' := by
 unfold lz_.f at h
 by_cases hl : l0.length ≤ 1000 ∧ l0.length ≤ l1.length
 ·rw [if_pos hl] at h
  obtain rfl := Option.some.inj h
  exact ic_.calls 1002 A0 c0 l0 A1 c1 l1 _ w hr0 hc0 hr1 hc1 (err_l0 l0 l1 hl.1 hl.2 l0.length 0 1002 Qa Qa)
 ·exact Xm
theorem era_l0 (w : List Int) (hl : w.length ≤ 1000) : ∀ (d i k : Nat), i + d = w.length → d < k → hc_.l0 k w (eraN w i) (i : Int) = some (eraN w w.length) := by
 intro d
 induction d with
 | zero =>
  intro i k hi hk
  obtain ⟨k, rfl⟩ : ∃ m, k = m + 1 := ⟨k - 1, Qa⟩
  simp only [hc_.l0]
  rw [if_neg Qa]
  obtain rfl : i = w.length := by omega
  rfl
 | succ d ih =>
  intro i k hi hk
  obtain ⟨k, rfl⟩ : ∃ m, k = m + 1 := ⟨k - 1, Qa⟩
  have hn := uv_ w i
  have hs : wrap64 ((i : Int) + 1) = ((i + 1 : Nat) : Int) := by unfold wrap64; omega
  have := ih (i + 1) k Qa Qa
  simp only [eraN] at this
  simp only [hc_.l0]
  rw [if_pos Qa, if_pos Qa, hs]
  simp only [ye_]
  by_cases h0 : w.getD i 0 < 0
  ·rw [if_pos h0, if_pos Qa]; rw [if_pos h0] at this; exact this
  ·rw [if_neg h0]; rw [if_neg h0, List.append_nil] at this; exact this
def up_.f (w : List Int) : Option (List Int) := if w.length ≤ 1000 then some (eraN w w.length) else none
theorem up_.calls (A0 : Option Addr) (c0 : Nat) (l0 : List Int) (r : List Int) (w : World) (hr0 : Kd.C (Kd.int .i64) w A0 l0.length l0) (hc0 : l0.length ≤ c0) (h : up_.f l0 = some r) :
  Calls Tryz.prog 88 #[.slice A0 l0.length c0] w fun e w' => ∃ v0_ : Value, e = .returned (v0_) ∧ Kd.R (Kd.int .i64) 3 w' w.heap.size (fun _ => True) v0_ r ∧ Below w.heap.size w w' := by
 unfold up_.f at h
 by_cases hl : l0.length ≤ 1000
 ·rw [if_pos hl] at h
  obtain rfl := Option.some.inj h
  exact hc_.calls 1002 A0 c0 l0 _ w hr0 hc0 (era_l0 l0 hl l0.length 0 1002 Qa Qa)
 ·exact Xm
def gk_.f (w c : List Int) : Option (List Int × Int) := if 6 ≤ c.length ∧ c.length ≤ 1000 ∧ w.length ≤ c.length then some (c.take (c.length - 6), ((errN w c w.length : Nat) : Int)) else none
theorem gk_.some {w c t : List Int} {u : Int} (h : gk_.f w c = some (t, u)) : 6 ≤ c.length ∧ c.length ≤ 1000 ∧ t = c.take (c.length - 6) ∧ lz_.f w c = some u := by
 unfold gk_.f at h
 by_cases hl : 6 ≤ c.length ∧ c.length ≤ 1000 ∧ w.length ≤ c.length
 rotate_left
 ·exact Xm
 rw [if_pos hl] at h
 simp only [Option.some.injEq, Prod.mk.injEq] at h
 refine ⟨hl.1, hl.2.1, h.1.symm, ?_⟩
 unfold lz_.f
 rw [if_pos Qa, h.2]
end Go.Proofs.YtpkhgapifnjbeaaGreatDoor.G
end
section
namespace Go.Proofs.YtpkhgapifnjbeaaGreatDoor.V
open RowKit G Rs Zw.PrintWords Zw.PrintLast Zw.PrintMore
attribute [local go_sem] id_ kd_ vd_ wd_ bd_ cd_ jd_ ld_
def errW : Option Int → Value
 | none => .nilIface
 | some c => .iface 0 (.int .i64 c)
theorem ta_ : errW none = .nilIface := rfl
theorem ua_ (c : Int) : errW (some c) = .iface 0 (.int .i64 c) := rfl
theorem gi_ : (Tryz.prog.info? 3).map (fun i => (i.zero, i.size, i.bytes)) = some (some (.int .i64 0), 1, 8) := by kernel_rfl
def sf_ (xs : List (List Int)) (i : Int) : (List Int) := xs.getD i.toNat ([] : List Int)
theorem dt_ {w : World} {A : Option Addr} {n : Nat} {xs : List (List Int)} (h : Kd.C (Kd.slice 3 (Kd.int .i64)) w A n xs) (i : Int) (h0 : 0 ≤ i) (h1 : i < n) : ∃ ad A0 c0, A = some ad ∧ w.cell? (ad.add i.toNat) = some (.slice A0 (sf_ xs i).length c0) ∧ (sf_ xs i).length ≤ c0 ∧ (Kd.int .i64).C w A0 (sf_ xs i).length (sf_ xs i) := by
 obtain ⟨ad, c, e, _, hK, hc0⟩ := Kd.oi_ h ([] : List Int) i h0 h1
 have hc : ∀ j u, c[j]? = some u → w.cell? (ad.add (i.toNat * 1 + j)) = some u := hc0
 obtain ⟨A0, c0, rfl, l0, g0⟩ := hK
 exact ⟨ad, A0, c0, e, Q0, l0, g0⟩
end Go.Proofs.YtpkhgapifnjbeaaGreatDoor.V
end
section
namespace Go.Proofs.YtpkhgapifnjbeaaGreatDoor.V
open RowKit G Rs Zw.PrintWords Zw.PrintLast Zw.PrintMore
attribute [local go_sem] id_ kd_ vd_ wd_ bd_ cd_ jd_ ld_
def ve_.f (a0 : Int) (a1 : Int) : Option (Int × Int) := some (((IntKind.u64.wrap ((IntKind.u64.wrap (a0)) * (IntKind.u64.wrap (a1)))) / 4294967296) % 4294967296, (IntKind.u64.wrap ((IntKind.u64.wrap (a0)) * (IntKind.u64.wrap (a1)))) % 4294967296)
set_option maxHeartbeats 8000000 in
set_option maxRecDepth 100000 in
theorem ve_.calls (a0 : Int) (a1 : Int) (r1 : Int) (r2 : Int) (w : World) (h : ve_.f a0 a1 = some (r1, r2)) :
  Calls Tryz.prog 99 #[.int .u32 a0, .int .u32 a1] w fun e w' => e = .returned (.tuple #[.int .u32 r1, .int .u32 r2]) ∧ ja_ w w' := by
 have H : (some (((IntKind.u64.wrap ((IntKind.u64.wrap (a0)) * (IntKind.u64.wrap (a1)))) / 4294967296) % 4294967296, (IntKind.u64.wrap ((IntKind.u64.wrap (a0)) * (IntKind.u64.wrap (a1)))) % 4294967296)) = some (r1, r2) := h
 clear h
 simp only [Option.some.injEq, Prod.mk.injEq] at H
 obtain ⟨rfl, rfl⟩ := H
 go_enter Tryz.func99, Tryz.ntmps99
 go_wp2
 go_ret2
 exact ⟨Qi, Qp⟩
def qd_.f (a0 : Int) (a1 : Int) : Option (Int × Int) := some (IntKind.u64.wrap ((IntKind.u64.wrap ((IntKind.u64.wrap ((a0 / 4294967296) * (a1 / 4294967296))) + ((IntKind.u64.wrap ((IntKind.u64.wrap ((a0 / 4294967296) * (Go.bits .and .u64 a1 4294967295))) + ((IntKind.u64.wrap ((Go.bits .and .u64 a0 4294967295) * (Go.bits .and .u64 a1 4294967295))) / 4294967296))) / 4294967296))) + ((IntKind.u64.wrap ((Go.bits .and .u64 (IntKind.u64.wrap ((IntKind.u64.wrap ((a0 / 4294967296) * (Go.bits .and .u64 a1 4294967295))) + ((IntKind.u64.wrap ((Go.bits .and .u64 a0 4294967295) * (Go.bits .and .u64 a1 4294967295))) / 4294967296))) 4294967295) + (IntKind.u64.wrap ((Go.bits .and .u64 a0 4294967295) * (a1 / 4294967296))))) / 4294967296)), IntKind.u64.wrap (a0 * a1))
set_option maxHeartbeats 8000000 in
set_option maxRecDepth 100000 in
theorem qd_.calls (a0 : Int) (a1 : Int) (r1 : Int) (r2 : Int) (w : World) (h : qd_.f a0 a1 = some (r1, r2)) :
  Calls Tryz.prog 100 #[.int .u64 a0, .int .u64 a1] w fun e w' => e = .returned (.tuple #[.int .u64 r1, .int .u64 r2]) ∧ ja_ w w' := by
 have H : (some (IntKind.u64.wrap ((IntKind.u64.wrap ((IntKind.u64.wrap ((a0 / 4294967296) * (a1 / 4294967296))) + ((IntKind.u64.wrap ((IntKind.u64.wrap ((a0 / 4294967296) * (Go.bits .and .u64 a1 4294967295))) + ((IntKind.u64.wrap ((Go.bits .and .u64 a0 4294967295) * (Go.bits .and .u64 a1 4294967295))) / 4294967296))) / 4294967296))) + ((IntKind.u64.wrap ((Go.bits .and .u64 (IntKind.u64.wrap ((IntKind.u64.wrap ((a0 / 4294967296) * (Go.bits .and .u64 a1 4294967295))) + ((IntKind.u64.wrap ((Go.bits .and .u64 a0 4294967295) * (Go.bits .and .u64 a1 4294967295))) / 4294967296))) 4294967295) + (IntKind.u64.wrap ((Go.bits .and .u64 a0 4294967295) * (a1 / 4294967296))))) / 4294967296)), IntKind.u64.wrap (a0 * a1))) = some (r1, r2) := h
 clear h
 simp only [Option.some.injEq, Prod.mk.injEq] at H
 obtain ⟨rfl, rfl⟩ := H
 go_enter Tryz.func100, Tryz.ntmps100
 go_wp2
 go_ret2
 exact ⟨Qi, Qp⟩
def lf_.f (a0 : Int) (a1 : Int) : Option (Int × Int) := (qd_.f a0 a1).bind fun bt101 => (some (bt101.1, bt101.2))
set_option maxHeartbeats 8000000 in
set_option maxRecDepth 100000 in
theorem lf_.calls (a0 : Int) (a1 : Int) (r1 : Int) (r2 : Int) (w : World) (h : lf_.f a0 a1 = some (r1, r2)) :
  Calls Tryz.prog 71 #[.int .u64 a0, .int .u64 a1] w fun e w' => e = .returned (.tuple #[.int .u64 r1, .int .u64 r2]) ∧ ja_ w w' := by
 have H : ((qd_.f a0 a1).bind fun bt101 => (some (bt101.1, bt101.2))) = some (r1, r2) := h
 clear h
 obtain ⟨⟨t101, t102⟩, A3, H⟩ := Qk H
 try dsimp only at H
 simp only [Option.some.injEq, Prod.mk.injEq] at H
 obtain ⟨rfl, rfl⟩ := H
 go_enter Tryz.func71, Tryz.ntmps71
 go_wp2_with (first | ((with_reducible refine ia_ (f := 100) rfl ?_); refine gc_ (some 25) rfl rfl Tryz.func100 Qb rfl #[.int .u64 a0, .int .u64 a1] rfl Qj ?_; (with_reducible refine (qd_.calls a0 a1 t101 t102 _ A3.out).mono ?_); rintro e w' ⟨rfl, ⟨nd, rfl⟩⟩; refine ⟨_, rfl, ?_⟩))
 go_ret2
 exact ⟨Qi, Qp⟩
def dc_.f (a0 : Int) : Option (Bool) := if a0 ≥ 0 then (some (decide (a0 < 32))) else (some false)
set_option maxHeartbeats 8000000 in
set_option maxRecDepth 100000 in
theorem dc_.calls (a0 : Int) (r : Bool) (w : World) (h : dc_.f a0 = some r) :
  Calls Tryz.prog 84 #[.int .i64 a0] w fun e w' => e = .returned (.bool r) ∧ ja_ w w' := by
 have H : (if a0 ≥ 0 then (some (decide (a0 < 32))) else (some false)) = some r := h
 clear h
 by_cases c2 : a0 ≥ 0
 ·exact X8
 ·exact X9
mutual
def ma_.j0 : Nat → List Int → Bool → Option (List Int × Int)
 | 0, _, _ => none
 | k + 1, x0, x17 => if x17 = true then (some (([] : List Int), 2)) else (if 0 ≤ (wrap64 ((x0.length : Int) + 6)) then (if (wrap64 ((x0.length : Int) + 6) : Int).toNat ≤ 35184372088832 then (ma_.l0 k x0 (List.replicate (wrap64 ((x0.length : Int) + 6) : Int).toNat 0) 0) else (none)) else (none))
def ma_.l0 : Nat → List Int → List Int → Int → Option (List Int × Int)
 | 0, _, _, _ => none
 | k + 1, x0, x4, x6 => if x6 < (x0.length : Int) then (if 0 ≤ x6 then ((dc_.f (rd x0 x6)).bind fun t107 => (if t107 = true then (if x6 < (x4.length : Int) then (ma_.l0 k x0 (x4.set (x6 : Int).toNat (rd x0 x6)) (wrap64 (x6 + 1))) else (none)) else (some (([] : List Int), 2)))) else (none)) else (ma_.l1 k x0 x4 ([] : List Int) 0)
def ma_.l1 : Nat → List Int → List Int → List Int → Int → Option (List Int × Int)
 | 0, _, _, _, _ => none
 | k + 1, x0, x4, x5, x7 => if x7 < 6 then (if x5.length < 17592186044416 then (ma_.l1 k x0 x4 (x5 ++ [wrap64 ((x0.length : Int) + x7)]) (wrap64 (x7 + 1))) else (none)) else ((tk_.f x4 x5).bind fun bt113 => (some (bt113.1, 0)))
end
def ma_.f (k : Nat) (l0 : List Int) : Option (List Int × Int) := if (l0.length : Int) < 1 then (ma_.j0 k l0 true) else (ma_.j0 k l0 (decide ((l0.length : Int) > 9)))
theorem ma_.yc_ : ∀ k, (∀ y0 y1, LeO (ma_.j0 k y0 y1) (ma_.j0 (k + 1) y0 y1)) ∧ (∀ y0 y1 y2, LeO (ma_.l0 k y0 y1 y2) (ma_.l0 (k + 1) y0 y1 y2)) ∧ (∀ y0 y1 y2 y3, LeO (ma_.l1 k y0 y1 y2 y3) (ma_.l1 (k + 1) y0 y1 y2 y3))
 | 0 => ⟨fun _ _ r h => by simp [ma_.j0] at h, fun _ _ _ r h => by simp [ma_.l0] at h, fun _ _ _ _ r h => by simp [ma_.l1] at h⟩
 | k + 1 => by
  obtain ⟨ih0, ih1, ih2⟩ := ma_.yc_ k
  refine ⟨?_, ?_, ?_⟩
  ·intro y0 y1
   unfold ma_.j0
   repeat' first
   | (with_reducible exact ih0 _ _)
   | (with_reducible exact ih1 _ _ _)
   | (with_reducible exact ih2 _ _ _ _)
   | (with_reducible first | exact LeO.refl _ | exact LeO.none _ | refine LeO.ite ?_ ?_ | refine LeO.bind ?_ (fun _ => ?_))
   | exact ih0 _ _
   | exact ih1 _ _ _
   | exact ih2 _ _ _ _
   | exact LeO.none _
   | refine LeO.ite ?_ ?_
   | refine LeO.bind ?_ (fun _ => ?_)
  ·intro y0 y1 y2
   unfold ma_.l0
   repeat' first
   | (with_reducible exact ih0 _ _)
   | (with_reducible exact ih1 _ _ _)
   | (with_reducible exact ih2 _ _ _ _)
   | (with_reducible first | exact LeO.refl _ | exact LeO.none _ | refine LeO.ite ?_ ?_ | refine LeO.bind ?_ (fun _ => ?_))
   | exact ih0 _ _
   | exact ih1 _ _ _
   | exact ih2 _ _ _ _
   | exact LeO.none _
   | refine LeO.ite ?_ ?_
   | refine LeO.bind ?_ (fun _ => ?_)
  intro y0 y1 y2 y3
  unfold ma_.l1
  repeat' first
  | (with_reducible exact ih0 _ _)
  | (with_reducible exact ih1 _ _ _)
  | (with_reducible exact ih2 _ _ _ _)
  | (with_reducible first | exact LeO.refl _ | exact LeO.none _ | refine LeO.ite ?_ ?_ | refine LeO.bind ?_ (fun _ => ?_))
  | exact ih0 _ _
  | exact ih1 _ _ _
  | exact ih2 _ _ _ _
  | exact LeO.none _
  | refine LeO.ite ?_ ?_
  | refine LeO.bind ?_ (fun _ => ?_)
theorem ma_.mono : ∀ a0 k, LeO (ma_.f k a0) (ma_.f (k + 1) a0) := by
 intro a0 k
 obtain ⟨ih0, ih1, ih2⟩ := ma_.yc_ k
 unfold ma_.f
 repeat' first
   | (with_reducible exact ih0 _ _)
   | (with_reducible exact ih1 _ _ _)
   | (with_reducible exact ih2 _ _ _ _)
   | (with_reducible first | exact LeO.refl _ | exact LeO.none _ | refine LeO.ite ?_ ?_ | refine LeO.bind ?_ (fun _ => ?_))
   | exact ih0 _ _
   | exact ih1 _ _ _
   | exact ih2 _ _ _ _
   | exact LeO.none _
   | refine LeO.ite ?_ ?_
   | refine LeO.bind ?_ (fun _ => ?_)
set_option maxHeartbeats 8000000 in
set_option maxRecDepth 100000 in
theorem ma_.calls (k : Nat) (A0 : Option Addr) (c0 : Nat) (l0 : List Int) (r1 : List Int) (r2 : Int) (w : World) (hr0 : Kd.C (Kd.int .i64) w A0 l0.length l0) (hc0 : l0.length ≤ c0) (h : ma_.f k l0 = some (r1, r2)) :
  Calls Tryz.prog 52 #[.slice A0 l0.length c0] w fun e w' => ∃ v0_ : Value, e = .returned (.tuple #[v0_, .int .i64 r2]) ∧ Kd.R (Kd.int .i64) 3 w' w.heap.size (fun _ => True) v0_ r1 ∧ Below w.heap.size w w' := by
 have HR0 := ba_.mk hr0
 have HC0 := ba_.mk hc0
 clear hr0 hc0
 have HB := ba_.mk (Below.refl w.heap.size w)
 have H : (if (l0.length : Int) < 1 then (ma_.j0 k l0 true) else (ma_.j0 k l0 (decide ((l0.length : Int) > 9)))) = some (r1, r2) := h
 clear h
 have HC2 := ba_.mk H
 clear H
 go_enter Tryz.func52, Tryz.ntmps52
 go_upto_region 1 with (fail)
 go_cut [17] (fun v17 wc => ∃ (kq : Nat) (x17_1 : Bool), v17 = .bool x17_1 ∧ ba_ (ma_.j0 kq l0 x17_1 = some (r1, r2)) ∧ ba_ (kq ≤ k) ∧ ba_ (Below w.heap.size w wc))
 case first =>
  have H := HC2.out
  clear HC2
  by_cases c3 : (l0.length : Int) < 1
  ·rw [if_pos c3] at H
   have c3b0 := decide_eq_true c3
   have c3b1 : decide (l0.length < 1) = true := decide_eq_true Qa
   clear c3
   (first | rw [c3b0] | (simp only [yb_, ac_]; rw [c3b0]) | skip)
   have H' := ba_.mk H
   clear H
   go_wp2
   go_meet
   case rel => exact ⟨_, (true), Qi, H', ⟨Xf⟩, ⟨Qe⟩⟩
  rw [if_neg c3] at H
  have c3b0 := decide_eq_false c3
  have c3b1 : decide (l0.length < 1) = false := decide_eq_false Qa
  clear c3
  (first | rw [c3b0] | (simp only [yb_, ac_]; rw [c3b0]) | skip)
  have H' := ba_.mk H
  clear H
  go_wp2
  go_meet
  case rel => exact ⟨_, (decide ((l0.length : Int) > 9)), Qi, H', ⟨Xf⟩, ⟨Qe⟩⟩
 case rest =>
  clear HC2
  try clear p2
  try clear c3
  try clear c3b0
  try clear c3b1
  obtain ⟨kq, x17_1, rfl, HA, HJ1, HB⟩ := hcut
  cases kq with
  | zero => exact absurd HA.out (by simp [ma_.j0])
  | succ kj1 =>
   have H := HA.out
   clear HA
   simp only [ma_.j0] at H
   by_cases c4 : x17_1 = true
   ·subst c4
    have H1 : (some (([] : List Int), 2)) = some (r1, r2) := by rw [if_pos rfl] at H; exact H
    clear H
    have H := H1
    clear H1
    simp only [Option.some.injEq, Prod.mk.injEq] at H
    obtain ⟨rfl, rfl⟩ := H
    go_wp2
    go_ret2
    exact ⟨_, Qq, Q5, Qe⟩
   replace c4 := Bool.eq_false_iff.mpr c4
   subst c4
   have H1 : (if 0 ≤ (wrap64 ((l0.length : Int) + 6)) then (if (wrap64 ((l0.length : Int) + 6) : Int).toNat ≤ 35184372088832 then (ma_.l0 kj1 l0 (List.replicate (wrap64 ((l0.length : Int) + 6) : Int).toNat 0) 0) else (none)) else (none)) = some (r1, r2) := by rw [if_neg (show ¬ (false = true) by decide)] at H; exact H
   clear H
   have H := H1
   clear H1
   obtain ⟨ji5, hji5⟩ : ∃ j_ : Int, (wrap64 ((l0.length : Int) + 6)) = j_ := ⟨_, rfl⟩
   replace H : (if 0 ≤ (ji5) then (if (ji5 : Int).toNat ≤ 35184372088832 then (ma_.l0 kj1 l0 (List.replicate (ji5 : Int).toNat 0) 0) else (none)) else (none)) = some (r1, r2) := by first | (rw [hji5] at H; exact H) | (simp only [hji5] at H ⊢; exact H)
   have hji5w : (IntKind.i64.wrap ((l0.length : Int) + 6)) = ji5 := (yb_ _).trans hji5
   obtain ⟨c6, H⟩ := Qn H
   have c6b0 := eq_true c6
   have c6b1 := decide_eq_true c6
   clear c6
   obtain ⟨c7, H⟩ := Qn H
   have c7b0 := eq_true c7
   have c7b1 := decide_eq_true c7
   clear c7
   obtain ⟨y103, hy103⟩ : ∃ y_ : List Int, y_ = (List.replicate (ji5 : Int).toNat 0) := ⟨_, rfl⟩
   replace H : (ma_.l0 kj1 l0 y103 0) = some (r1, r2) := by first | (rw [hy103]; with_reducible exact H) | (have H2_ := (Option.bind_some _ _).symm.trans H; rw [hy103]; with_reducible exact H2_) | (have H2_ := (Option.bind_some _ _).symm.trans H; with_reducible exact H2_) | with_reducible exact H | (rw [hy103]; exact H) | exact H
   have Ny103 := ba_.mk hy103
   clear hy103
   have H' := ba_.mk H
   clear H
   go_wp2_with (first | ((with_reducible refine md_ (N := 21) rfl ?_); (try (refine gl_ (by rfl) ?_; dsimp only)); refine Kd.oo_ (Kd.int .i64) _ 3 rfl (N := 21) rfl 22 _ _ rfl ji5 rfl rfl Tryz.underlying22 (.int .i64 0) 8 gi_ rfl Qh Qa 0 (ok := fun _ => True) (okp := fun _ => True) rfl (fun _ hk => hk) trivial (of_decide_eq_true Qg) (Nat.le_trans (Nat.mul_le_mul_right _ (of_decide_eq_true Qg : ji5.toNat ≤ 35184372088832)) Qa) (Below.refl _ _) (Nat.le_refl _) ?_; intro v104 w8 ho9 hb hg_ hnew_; clear hg_ hnew_; (first | rw [← Ny103.out] at ho9 | (simp only [Int.reduceToNat] at ho9; rw [← Ny103.out] at ho9)); have n0_ := ba_.mk (Kd.td_ ho9 (za_ Qe)); have n1_ := ba_.mk (wa_ Qe hb); clear HB; have HO105 := n0_; have HB := n1_; clear n0_ n1_; clear hb ho9))
   go_loopg [6] kj1 (fun kq v6 w' => ∃ (x4_2 : List Int) (x6_2 : Int), v6 = .int .i64 x6_2 ∧ ba_ (ma_.l0 kq l0 x4_2 x6_2 = some (r1, r2)) ∧ ba_ (kq ≤ kj1) ∧ ba_ (Kd.R (Kd.int .i64) 3 w' w.heap.size (fun _ => True) v104 x4_2) ∧ ba_ (Below w.heap.size w w'))
   case atStart => exact ⟨(y103), (0), Qi, H', ⟨Nat.le_refl _⟩, ⟨by (with_reducible repeat (first | apply Kd.eb_ | apply Kd.fb_ | apply Kd.rb_)); exact HO105.out⟩, ⟨Qe⟩⟩
   case round =>
    clear H'
    try clear p2
    try clear c3
    try clear c3b0
    try clear c3b1
    try clear c4
    try clear c5
    try clear c6
    try clear c6b0
    try clear c6b1
    try clear p6
    try clear c7
    try clear c7b0
    try clear c7b1
    try clear p2
    obtain ⟨x4_2, x6_2, rfl, HA, HK2, HO_4, HB⟩ := hrel
    cases gk with
    | zero => exact absurd HA.out (by simp [ma_.l0])
    | succ k2 =>
     have H := HA.out
     clear HA
     simp only [ma_.l0] at H
     by_cases c10 : x6_2 < (l0.length : Int)
     ·rw [if_pos c10] at H
      have c10b0 := decide_eq_true c10
      clear c10
      obtain ⟨c11, H⟩ := Qn H
      have c11b0 := decide_eq_true c11
      clear c11
      obtain ⟨t107, A12, H⟩ := Qk H
      try dsimp only at H
      by_cases c13 : t107 = true
      rotate_left
      ·replace c13 := Bool.eq_false_iff.mpr c13
       subst c13
       have H1 : (some (([] : List Int), 2)) = some (r1, r2) := by rw [if_neg (show ¬ (false = true) by decide)] at H; exact H
       clear H
       have H := H1
       clear H1
       simp only [Option.some.injEq, Prod.mk.injEq] at H
       obtain ⟨rfl, rfl⟩ := H
       have p106 : 0 ≤ (x6_2 : Int) := of_decide_eq_true Qg
       have q106 : x6_2 < (l0.length : Int) := of_decide_eq_true Qg
       obtain ⟨ad106, e106, hx106_0⟩ := Kd.sd_ HR0.out x6_2 p106 q106
       cases e106
       replace hx106_0 := (HB.out.cell (World.block_lt_of_cell? w _ hx106_0)).trans hx106_0
       replace p106 := eq_true p106
       replace q106 := eq_true q106
       go_wp2_with (first | ((with_reducible refine ia_ (f := 84) rfl ?_); refine gc_ (some 32) rfl rfl Tryz.func84 Qb rfl #[.int .i64 (rd l0 x6_2)] rfl Qj ?_; (with_reducible refine (dc_.calls (rd l0 x6_2) false _ A12.out).mono ?_); rintro e w' ⟨rfl, ⟨nd, rfl⟩⟩; refine ⟨_, rfl, ?_⟩))
       go_ret2
       exact ⟨_, by first | rfl | (simp [ta_, ua_] <;> rfl) | (simp only [← hji5]; first | rfl | (simp [ta_, ua_] <;> rfl)) | (simp [*, ta_, ua_] <;> rfl), Q5, Qe⟩
      subst c13
      have H1 : (if x6_2 < (x4_2.length : Int) then (ma_.l0 k2 l0 (x4_2.set (x6_2 : Int).toNat (rd l0 x6_2)) (wrap64 (x6_2 + 1))) else (none)) = some (r1, r2) := by rw [if_pos rfl] at H; exact H
      clear H
      have H := H1
      clear H1
      obtain ⟨c14, H⟩ := Qn H
      have c14b0 := decide_eq_true c14
      clear c14
      obtain ⟨y109, hy109⟩ : ∃ y_ : List Int, y_ = (x4_2.set (x6_2 : Int).toNat (rd l0 x6_2)) := ⟨_, rfl⟩
      replace H : (ma_.l0 k2 l0 y109 (wrap64 (x6_2 + 1))) = some (r1, r2) := by first | (rw [hy109]; with_reducible exact H) | (have H2_ := (Option.bind_some _ _).symm.trans H; rw [hy109]; with_reducible exact H2_) | (have H2_ := (Option.bind_some _ _).symm.trans H; with_reducible exact H2_) | with_reducible exact H | (rw [hy109]; exact H) | exact H
      have Ny109 := ba_.mk hy109
      clear hy109
      have H' := ba_.mk H
      clear H
      have p106 : 0 ≤ (x6_2 : Int) := of_decide_eq_true Qg
      have q106 : x6_2 < (l0.length : Int) := of_decide_eq_true Qg
      obtain ⟨ad106, e106, hx106_0⟩ := Kd.sd_ HR0.out x6_2 p106 q106
      cases e106
      replace hx106_0 := (HB.out.cell (World.block_lt_of_cell? w _ hx106_0)).trans hx106_0
      replace p106 := eq_true p106
      replace q106 := eq_true q106
      go_wp2_with (first | ((with_reducible refine ia_ (f := 84) rfl ?_); refine gc_ (some 32) rfl rfl Tryz.func84 Qb rfl #[.int .i64 (rd l0 x6_2)] rfl Qj ?_; (with_reducible refine (dc_.calls (rd l0 x6_2) true _ A12.out).mono ?_); rintro e w' ⟨rfl, ⟨nd, rfl⟩⟩; refine ⟨_, rfl, ?_⟩; (try (rw [py_ wr]; generalize hq_ : World.drewN wr _ = wr; have n0_ : ba_ (Kd.R (Kd.int .i64) 3 wr w.heap.size (fun _ => True) v104 x4_2) := ⟨by rw [← hq_]; exact (Ql HO_4.out)⟩; have n1_ : ba_ (Below w.heap.size w wr) := ⟨by rw [← hq_]; exact Qe⟩; clear HO_4 HB hq_; have HO_4 := n0_; have HB := n1_; clear n0_ n1_)); have p108 : 0 ≤ (x6_2 : Int) := of_decide_eq_true Qg; have q108 : x6_2 < (l0.length : Int) := of_decide_eq_true Qg; obtain ⟨ad108, e108, hx108_0⟩ := Kd.sd_ HR0.out x6_2 p108 q108; obtain rfl : ad106 = ad108 := (by injection e108); replace hx108_0 := (HB.out.cell (World.block_lt_of_cell? w _ hx108_0)).trans hx108_0; replace p108 := eq_true p108; replace q108 := eq_true q108; have p15 : 0 ≤ (x6_2 : Int) := of_decide_eq_true Qg; have q15 : (x6_2 : Int) < ((x4_2.length : Int) : Int) := of_decide_eq_true Qg; obtain ⟨go15, co15, eo15, gb15, gl15, cl15, HG15⟩ := Kd.mi_ HO_4.out Qa; (first | cases eo15 | (injection eo15 with ea_ en_ ec_; (first | subst ea_ | (injection ea_ with ea_; subst ea_)); subst ec_; clear en_)); have GB15 := ba_.mk gb15; have GG15 := ba_.mk HG15; clear gb15 gl15 HG15; obtain ⟨hx15_0, hf15_0⟩ := Kd.sg_ 0 HO_4.out (x6_2 : Int) p15 q15; replace p15 := eq_true p15; replace q15 := eq_true q15; obtain ⟨hy16_, hz16_⟩ := Kd.sg_ 0 HO_4.out (x6_2 : Int) (of_decide_eq_true Qg) (of_decide_eq_true Qg); have HP16 := Kd.da1_ HO_4.out (x6_2 : Int) (rd l0 x6_2)) | ((with_reducible refine an_ (t := 3) (p := 40) rfl ?_); refine yl_ (t := 3) (p := 40) (v := ?vo_w17) (w1 := (wr.setCell ⟨go15, (x6_2 : Int).toNat, none⟩ (.int .i64 (rd l0 x6_2)))) ?hg ?ho ?hn ?hr ?_; (case ho => rfl); (case hg => rfl); (case hn => rfl); (case hr => exact Qt); intro w17 hw; have hg : wr.grownBy w17 (some go15) := (by rw [hw]; exact HP16.2); have hp_ : Kd.R (Kd.int .i64) 3 w17 w.heap.size (fun _ => True) (.slice (some ⟨go15, 0, none⟩) x4_2.length co15) y109 := (by rw [hw, Ny109.out]; exact HP16.1); clear HP16; have n0_ := ba_.mk (hp_); have n1_ := ba_.mk ((by rw [hw]; exact sa_ (HB.out) GB15.out : Below w.heap.size w w17)); clear HO_4; clear HB; have HO_4 := n0_; have HB := n1_; clear n0_ n1_; clear hg hw hp_))
      go_roundg k2
      case measure => have := HJ1.out; have := HK2.out; omega
      case rel => exact ⟨(y109), (wrap64 (x6_2 + 1)), Qi, H', ⟨by have := HJ1.out; have := HK2.out; omega⟩, ⟨Yk⟩, ⟨Qe⟩⟩
     rw [if_neg c10] at H
     have c10b0 := decide_eq_false c10
     clear c10
     have H' := ba_.mk H
     clear H
     go_wp2
     go_loopg [5, 7] k2 (fun kq v5 v7 w' => ∃ (x5_3 : List Int) (x7_3 : Int), v7 = .int .i64 x7_3 ∧ ba_ (ma_.l1 kq l0 x4_2 x5_3 x7_3 = some (r1, r2)) ∧ ba_ (kq ≤ k2) ∧ ba_ (Kd.R (Kd.int .i64) 3 w' w.heap.size (fun k_ => some k_ ≠ (v5 : Value).ownBlock) v104 x4_2) ∧ ba_ (Kd.R (Kd.int .i64) 3 w' w.heap.size (fun k_ => some k_ ≠ (v104 : Value).ownBlock) v5 x5_3) ∧ ba_ (Below w.heap.size w w'))
     case atStart => exact ⟨(([] : List Int)), (0), Qi, H', ⟨Nat.le_refl _⟩, ⟨by (with_reducible repeat (first | apply Kd.eb_ | apply Kd.fb_ | apply Kd.rb_)); exact Kd.rd_ HO_4.out (fun _ hk => Xe)⟩, ⟨Q5⟩, ⟨Qe⟩⟩
     case round =>
      clear H'
      try clear c1
      try clear p1
      try clear q1
      try clear hx1
      try clear hf1
      try clear p2
      try clear c3
      try clear c3b0
      try clear c3b1
      try clear c4
      try clear c5
      try clear c6
      try clear c6b0
      try clear c6b1
      try clear p6
      try clear c7
      try clear c7b0
      try clear c7b1
      try clear c8
      try clear c10
      try clear c10b0
      try clear p10
      try clear q10
      try clear hx10
      try clear c11
      try clear c11b0
      try clear c13
      try clear c14
      try clear c14b0
      try clear p15
      try clear q15
      try clear hx15
      try clear hf15
      try clear hx106_0
      try clear hx108_0
      try clear hx15_0
      try clear p106
      try clear p108
      try clear p15
      try clear p2
      try clear p6
      try clear q106
      try clear q108
      try clear q15
      obtain ⟨x5_3, x7_3, rfl, HA, HK3, HO_4, HO_5, HB⟩ := hrel
      cases gk with
      | zero => exact absurd HA.out (by simp [ma_.l1])
      | succ k3 =>
       have H := HA.out
       clear HA
       simp only [ma_.l1] at H
       by_cases c18 : x7_3 < 6
       rotate_left
       ·rw [if_neg c18] at H
        have c18b0 := decide_eq_false c18
        clear c18
        obtain ⟨⟨t113, t114⟩, A21, H⟩ := Qk H
        try dsimp only at H
        simp only [Option.some.injEq, Prod.mk.injEq] at H
        obtain ⟨rfl, rfl⟩ := H
        obtain ⟨Ao22, co22, eo22⟩ := Kd.pd_ HO_4.out
        subst eo22
        obtain ⟨Ao23, co23, eo23⟩ := Kd.pd_ HO_5.out
        subst eo23
        go_wp2_with (first | ((with_reducible refine ia_ (f := 85) rfl ?_); refine gc_ (some 55) rfl rfl Tryz.func85 Qb rfl #[.slice Ao22 x4_2.length co22, .slice Ao23 x5_3.length co23] rfl Qj ?_; (with_reducible refine (tk_.calls _ _ x4_2 _ _ x5_3 t113 t114 _ ?side1 ?side2 ?side3 ?side4 A21.out).mono ?_); (case side1 => repeat (first | exact (Kd.cc_ HO_4.out).2.2 | (with_reducible refine Kd.gd_ ?_ _) | (with_reducible refine Kd.hd_ ?_ _) | (with_reducible refine Kd.yd_ ?_))); (case side2 => exact (Kd.cc_ HO_4.out).2.1); (case side3 => exact X5); (case side4 => exact (Kd.cc_ HO_5.out).2.1); rintro e w24 ⟨v115, rfl, ho0, hb⟩; refine ⟨_, rfl, ?_⟩; have n0_ := ba_.mk (Kd.ke_ (Ql HO_4.out) (Kd.if_ ho0) hb); have n1_ := ba_.mk (Kd.ke_ (Ql HO_5.out) (Kd.if_ ho0) hb); have n2_ := ba_.mk (Kd.td_ (Kd.hf_ (Kd.hf_ ho0 (Kd.R_lt (Ql HO_4.out))) (Kd.R_lt (Ql HO_5.out))) (za_ Qe)); have n3_ := ba_.mk (wa_ Qe hb); clear HO_4; clear HO_5; clear HB; have HO_4 := n0_; have HO_5 := n1_; have HO116 := n2_; have HB := n3_; clear n0_ n1_ n2_ n3_; (try clear hb); (try clear hb2); (try clear hk); (try clear hi); (try clear ho0)))
        go_ret2
        exact ⟨_, by first | rfl | (simp [ta_, ua_] <;> rfl) | (simp only [← hji5]; first | rfl | (simp [ta_, ua_] <;> rfl)) | (simp [*, ta_, ua_] <;> rfl), by (with_reducible repeat (first | apply Kd.eb_ | apply Kd.fb_ | apply Kd.rb_)); exact Kd.rd_ HO116.out (fun _ hk => trivial), Qe⟩
       rw [if_pos c18] at H
       have c18b0 := decide_eq_true c18
       clear c18
       obtain ⟨c19, H⟩ := Qn H
       have LMc19 := ba_.mk c19
       clear c19
       obtain ⟨y110, hy110⟩ : ∃ y_ : List Int, y_ = (x5_3 ++ [wrap64 ((l0.length : Int) + x7_3)]) := ⟨_, rfl⟩
       replace H : (ma_.l1 k3 l0 x4_2 y110 (wrap64 (x7_3 + 1))) = some (r1, r2) := by first | (rw [hy110]; with_reducible exact H) | (have H2_ := (Option.bind_some _ _).symm.trans H; rw [hy110]; with_reducible exact H2_) | (have H2_ := (Option.bind_some _ _).symm.trans H; with_reducible exact H2_) | with_reducible exact H | (rw [hy110]; exact H) | exact H
       have Ny110 := ba_.mk hy110
       clear hy110
       have H' := ba_.mk H
       clear H
       go_wp2_with (first | ((with_reducible refine xd_ (b := .append) (xs := #[.tmp 45, .tmp 50]) rfl ?_); (try (refine gl_ (by rfl) ?_; dsimp only)); at_builtin; refine Kd.qf_ (Kd.int .i64) (w0 := w) w.heap.size rfl (.tmp 45) (.tmp 50) 22 3 (.int .i64 0) 8 rfl Tryz.underlying22 gi_ rfl Qh Qa u5 x5_3 (wrap64 ((l0.length : Int) + x7_3)) [.int .i64 (wrap64 ((l0.length : Int) + x7_3))] (fun k_ => some k_ ≠ (v104 : Value).ownBlock) (fun _ => False) rfl rfl ?aP (fun _ hk => hk.elim) ?aF ?aO ?aB ?aS ?aL ?_; (case aP => exact rfl); (case aB => exact Q3); (case aF => exact (fun k_ hk => Kd.fresh' (Kd.R_lt (Ql HO_4.out)) k_ hk)); (case aO => exact (Ql HO_5.out)); (case aS => exact Q4); (case aL => have := LMc19.out; omega); intro v111 w20 ho hb hg hat; rw [← Ny110.out] at ho; have n0_ := ba_.mk (Kd.rl_ (ok := (fun _ => True)) (by (with_reducible repeat (first | apply Kd.eb_ | apply Kd.fb_ | apply Kd.rb_)); exact Kd.rd_ HO_4.out (fun _ hk => ⟨trivial, hk⟩)) hg hat); have n1_ := ba_.mk (hb); have n2_ := ba_.mk (ho); clear HO_4; clear HB; clear HO_5; have HO_4 := n0_; have HB := n1_; have HO112 := n2_; clear n0_ n1_ n2_; clear ho hb hg hat))
       go_roundg k3
       case measure => have := HJ1.out; have := HK2.out; have := HK3.out; omega
       case rel => exact ⟨(y110), (wrap64 (x7_3 + 1)), Qi, H', ⟨by have := HJ1.out; have := HK2.out; have := HK3.out; omega⟩, ⟨by (with_reducible repeat (first | apply Kd.eb_ | apply Kd.fb_ | apply Kd.rb_)); exact Kd.rd_ HO_4.out (fun _ hk => hk.2)⟩, ⟨by (with_reducible repeat (first | apply Kd.eb_ | apply Kd.fb_ | apply Kd.rb_)); exact HO112.out⟩, ⟨Qe⟩⟩
mutual
def va_.l0 : Nat → List Int → List Int → Int → Int → Option (List Int × Bool)
 | 0, _, _, _, _ => none
 | k + 1, x0, x1, x2, x12 => if x12 < (x0.length : Int) then (if 0 ≤ x12 then (if (rd x0 x12) < 0 then (va_.l0 k x0 x1 x2 (wrap64 (x12 + 1))) else (if ([] : List Int).length + x1.length < 17592186044416 then ((some (([] : List Int) ++ x1 : List Int)).bind fun y122 => (if y122.length < 17592186044416 then ((va_.f k x0 (y122 ++ [x12]) (wrap64 (x2 - 1)) (wrap64 (x12 + 1))).bind fun bt128 => (if bt128.2 = true then (some (bt128.1, true)) else (va_.l0 k x0 x1 x2 (wrap64 (x12 + 1))))) else (none))) else (none))) else (none)) else (some (([] : List Int), false))
def va_.f : Nat → List Int → List Int → Int → Int → Option (List Int × Bool)
 | 0, _, _, _, _ => none
 | k + 1, l0, l1, a2, a3 => (tk_.f l0 l1).bind fun bt117 => (if bt117.2 = true then (some (bt117.1, true)) else (if a2 = 0 then (some (([] : List Int), false)) else (va_.l0 k l0 l1 a2 a3)))
end
theorem va_.yc_ : ∀ k, (∀ y0 y1 y2 y3, LeO (va_.f k y0 y1 y2 y3) (va_.f (k + 1) y0 y1 y2 y3)) ∧ (∀ y0 y1 y2 y3, LeO (va_.l0 k y0 y1 y2 y3) (va_.l0 (k + 1) y0 y1 y2 y3))
 | 0 => ⟨fun _ _ _ _ r h => by simp [va_.f] at h, fun _ _ _ _ r h => by simp [va_.l0] at h⟩
 | k + 1 => by
  obtain ⟨ih0, ih1⟩ := va_.yc_ k
  refine ⟨?_, ?_⟩
  ·intro y0 y1 y2 y3
   unfold va_.f
   repeat' first
   | (with_reducible exact ih0 _ _ _ _)
   | (with_reducible exact ih1 _ _ _ _)
   | (with_reducible first | exact LeO.refl _ | exact LeO.none _ | refine LeO.ite ?_ ?_ | refine LeO.bind ?_ (fun _ => ?_))
   | exact ih0 _ _ _ _
   | exact ih1 _ _ _ _
   | exact LeO.none _
   | refine LeO.ite ?_ ?_
   | refine LeO.bind ?_ (fun _ => ?_)
  intro y0 y1 y2 y3
  unfold va_.l0
  repeat' first
  | (with_reducible exact ih0 _ _ _ _)
  | (with_reducible exact ih1 _ _ _ _)
  | (with_reducible first | exact LeO.refl _ | exact LeO.none _ | refine LeO.ite ?_ ?_ | refine LeO.bind ?_ (fun _ => ?_))
  | exact ih0 _ _ _ _
  | exact ih1 _ _ _ _
  | exact LeO.none _
  | refine LeO.ite ?_ ?_
  | refine LeO.bind ?_ (fun _ => ?_)
theorem va_.mono : ∀ a0 a1 a2 a3 k, LeO (va_.f k a0 a1 a2 a3) (va_.f (k + 1) a0 a1 a2 a3) := by
 intro a0 a1 a2 a3 k
 obtain ⟨ih0, ih1⟩ := va_.yc_ k
 exact ih0 a0 a1 a2 a3
set_option maxHeartbeats 8000000 in
set_option maxRecDepth 100000 in
theorem va_.calls (k : Nat) : ∀ (A0 : Option Addr) (c0 : Nat) (l0 : List Int) (A1 : Option Addr) (c1 : Nat) (l1 : List Int) (a2 : Int) (a3 : Int) (r1 : List Int) (r2 : Bool) (w : World) (hr0 : Kd.C (Kd.int .i64) w A0 l0.length l0) (hc0 : l0.length ≤ c0) (hr1 : Kd.C (Kd.int .i64) w A1 l1.length l1) (hc1 : l1.length ≤ c1) (h : va_.f k l0 l1 a2 a3 = some (r1, r2)),
  Calls Tryz.prog 89 #[.slice A0 l0.length c0, .slice A1 l1.length c1, .int .i64 a2, .int .i64 a3] w fun e w' => ∃ v0_ : Value, e = .returned (.tuple #[v0_, .bool r2]) ∧ Kd.R (Kd.int .i64) 3 w' w.heap.size (fun _ => True) v0_ r1 ∧ Below w.heap.size w w' := by
 induction k using Nat.strongRecOn with
 | _ k ih =>
 intro A0 c0 l0 A1 c1 l1 a2 a3 r1 r2 w hr0 hc0 hr1 hc1 h
 cases k with
 | zero => exact absurd h (by simp [va_.f])
 | succ k =>
 simp only [va_.f] at h
 have HR0 := ba_.mk hr0
 have HC0 := ba_.mk hc0
 clear hr0 hc0
 have HR1 := ba_.mk hr1
 have HC1 := ba_.mk hc1
 clear hr1 hc1
 have HB := ba_.mk (Below.refl w.heap.size w)
 have H : ((tk_.f l0 l1).bind fun bt117 => (if bt117.2 = true then (some (bt117.1, true)) else (if a2 = 0 then (some (([] : List Int), false)) else (va_.l0 k l0 l1 a2 a3)))) = some (r1, r2) := h
 clear h
 obtain ⟨⟨t117, t118⟩, A5, H⟩ := Qk H
 try dsimp only at H
 by_cases c6 : t118 = true
 ·subst c6
  have H1 : (some (t117, true)) = some (r1, r2) := by rw [if_pos rfl] at H; exact H
  clear H
  have H := H1
  clear H1
  simp only [Option.some.injEq, Prod.mk.injEq] at H
  obtain ⟨rfl, rfl⟩ := H
  go_enter Tryz.func89, Tryz.ntmps89
  go_wp2_with (first | ((with_reducible refine ia_ (f := 85) rfl ?_); refine gc_ (some 19) rfl rfl Tryz.func85 Qb rfl #[.slice A0 l0.length c0, .slice A1 l1.length c1] rfl Qj ?_; (with_reducible refine (tk_.calls _ _ l0 _ _ l1 t117 true _ ?side1 ?side2 ?side3 ?side4 A5.out).mono ?_); (case side1 => exact Xa); (case side2 => exact HC0.out); (case side3 => repeat (first | exact HR1.out | (with_reducible refine Kd.gd_ ?_ _) | (with_reducible refine Kd.hd_ ?_ _) | (with_reducible refine Kd.yd_ ?_))); (case side4 => exact HC1.out); rintro e w7 ⟨v119, rfl, ho0, hb⟩; refine ⟨_, rfl, ?_⟩; have n0_ := ba_.mk (Kd.td_ ho0 (za_ Qe)); have n1_ := ba_.mk (wa_ Qe hb); clear HB; have HO120 := n0_; have HB := n1_; clear n0_ n1_; (try clear hb); (try clear hb2); (try clear hk); (try clear hi); (try clear ho0)))
  go_ret2
  exact ⟨_, Qq, by (with_reducible repeat (first | apply Kd.eb_ | apply Kd.fb_ | apply Kd.rb_)); exact HO120.out, Qe⟩
 replace c6 := Bool.eq_false_iff.mpr c6
 subst c6
 have H1 : (if a2 = 0 then (some (([] : List Int), false)) else (va_.l0 k l0 l1 a2 a3)) = some (r1, r2) := by rw [if_neg (show ¬ (false = true) by decide)] at H; exact H
 clear H
 have H := H1
 clear H1
 by_cases c8 : a2 = 0
 ·rw [if_pos c8] at H
  have c8b0 : (a2 == 0) = true := beq_iff_eq.mpr c8
  have c8b1 : (a2 != 0) = false := bne_eq_false_iff_eq.mpr c8
  clear c8
  simp only [Option.some.injEq, Prod.mk.injEq] at H
  obtain ⟨rfl, rfl⟩ := H
  go_enter Tryz.func89, Tryz.ntmps89
  go_wp2_with (first | ((with_reducible refine ia_ (f := 85) rfl ?_); refine gc_ (some 19) rfl rfl Tryz.func85 Qb rfl #[.slice A0 l0.length c0, .slice A1 l1.length c1] rfl Qj ?_; (with_reducible refine (tk_.calls _ _ l0 _ _ l1 t117 false _ ?side1 ?side2 ?side3 ?side4 A5.out).mono ?_); (case side1 => exact Xa); (case side2 => exact HC0.out); (case side3 => repeat (first | exact HR1.out | (with_reducible refine Kd.gd_ ?_ _) | (with_reducible refine Kd.hd_ ?_ _) | (with_reducible refine Kd.yd_ ?_))); (case side4 => exact HC1.out); rintro e w9 ⟨v119, rfl, ho0, hb⟩; refine ⟨_, rfl, ?_⟩; have n0_ := ba_.mk (Kd.td_ ho0 (za_ Qe)); have n1_ := ba_.mk (wa_ Qe hb); clear HB; have HO120 := n0_; have HB := n1_; clear n0_ n1_; (try clear hb); (try clear hb2); (try clear hk); (try clear hi); (try clear ho0)))
  go_ret2
  exact ⟨_, Qq, Q5, Qe⟩
 rw [if_neg c8] at H
 have c8b0 : (a2 == 0) = false := beq_eq_false_iff_ne.mpr c8
 have c8b1 : (a2 != 0) = true := bne_iff_ne.mpr c8
 have H' := ba_.mk H
 clear H
 go_enter Tryz.func89, Tryz.ntmps89
 go_wp2_with (first | ((with_reducible refine ia_ (f := 85) rfl ?_); refine gc_ (some 19) rfl rfl Tryz.func85 Qb rfl #[.slice A0 l0.length c0, .slice A1 l1.length c1] rfl Qj ?_; (with_reducible refine (tk_.calls _ _ l0 _ _ l1 t117 false _ ?side1 ?side2 ?side3 ?side4 A5.out).mono ?_); (case side1 => exact Xa); (case side2 => exact HC0.out); (case side3 => repeat (first | exact HR1.out | (with_reducible refine Kd.gd_ ?_ _) | (with_reducible refine Kd.hd_ ?_ _) | (with_reducible refine Kd.yd_ ?_))); (case side4 => exact HC1.out); rintro e w10 ⟨v119, rfl, ho0, hb⟩; refine ⟨_, rfl, ?_⟩; have n0_ := ba_.mk (Kd.td_ ho0 (za_ Qe)); have n1_ := ba_.mk (wa_ Qe hb); clear HB; have HO120 := n0_; have HB := n1_; clear n0_ n1_; (try clear hb); (try clear hb2); (try clear hk); (try clear hi); (try clear ho0)))
 go_loopg [12] k (fun kq v12 w' => ∃ (x12_1 : Int), v12 = .int .i64 x12_1 ∧ ba_ (va_.l0 kq l0 l1 a2 x12_1 = some (r1, r2)) ∧ ba_ (kq ≤ k) ∧ ba_ (Below w.heap.size w w'))
 case atStart => exact ⟨(a3), Qi, H', ⟨Nat.le_refl _⟩, ⟨Qe⟩⟩
 case round =>
  clear H'
  try clear c1
  try clear p2
  try clear c6
  try clear c8
  try clear c8b0
  try clear c8b1
  obtain ⟨x12_1, rfl, HA, HK1, HB⟩ := hrel
  cases gk with
  | zero => exact absurd HA.out (by simp [va_.l0])
  | succ k1 =>
   have H := HA.out
   clear HA
   simp only [va_.l0] at H
   by_cases c11 : x12_1 < (l0.length : Int)
   rotate_left
   ·rw [if_neg c11] at H
    have c11b0 := decide_eq_false c11
    clear c11
    simp only [Option.some.injEq, Prod.mk.injEq] at H
    obtain ⟨rfl, rfl⟩ := H
    go_wp2
    go_ret2
    exact ⟨_, Qq, Q5, Qe⟩
   rw [if_pos c11] at H
   have c11b0 := decide_eq_true c11
   clear c11
   obtain ⟨c12, H⟩ := Qn H
   have c12b0 := decide_eq_true c12
   clear c12
   by_cases c13 : (rd l0 x12_1) < 0
   ·rw [if_pos c13] at H
    have c13b0 := decide_eq_true c13
    clear c13
    have H' := ba_.mk H
    clear H
    have p121 : 0 ≤ (x12_1 : Int) := of_decide_eq_true Qg
    have q121 : x12_1 < (l0.length : Int) := of_decide_eq_true Qg
    obtain ⟨ad121, e121, hx121_0⟩ := Kd.sd_ HR0.out x12_1 p121 q121
    cases e121
    replace hx121_0 := (HB.out.cell (World.block_lt_of_cell? w _ hx121_0)).trans hx121_0
    replace p121 := eq_true p121
    replace q121 := eq_true q121
    go_wp2
    go_roundg k1
    case measure => have := HK1.out; omega
    case rel => exact ⟨(wrap64 (x12_1 + 1)), Qi, H', ⟨Qw⟩, ⟨Qe⟩⟩
   rw [if_neg c13] at H
   have c13b0 := decide_eq_false c13
   clear c13
   obtain ⟨c14, H⟩ := Qn H
   have LMc14 := ba_.mk c14
   clear c14
   obtain ⟨y122, hy122⟩ : ∃ y_ : List Int, y_ = (([] : List Int) ++ l1) := ⟨_, rfl⟩
   replace H : (if y122.length < 17592186044416 then ((va_.f k1 l0 (y122 ++ [x12_1]) (wrap64 (a2 - 1)) (wrap64 (x12_1 + 1))).bind fun bt128 => (if bt128.2 = true then (some (bt128.1, true)) else (va_.l0 k1 l0 l1 a2 (wrap64 (x12_1 + 1))))) else (none)) = some (r1, r2) := by first | (rw [hy122]; with_reducible exact H) | (have H2_ := (Option.bind_some _ _).symm.trans H; rw [hy122]; with_reducible exact H2_) | (have H2_ := (Option.bind_some _ _).symm.trans H; with_reducible exact H2_) | with_reducible exact H | (rw [hy122]; exact H) | exact H
   have Ny122 := ba_.mk hy122
   clear hy122
   obtain ⟨c15, H⟩ := Qn H
   have LMc15 := ba_.mk c15
   clear c15
   obtain ⟨y125, hy125⟩ : ∃ y_ : List Int, y_ = (y122 ++ [x12_1]) := ⟨_, rfl⟩
   replace H : ((va_.f k1 l0 y125 (wrap64 (a2 - 1)) (wrap64 (x12_1 + 1))).bind fun bt128 => (if bt128.2 = true then (some (bt128.1, true)) else (va_.l0 k1 l0 l1 a2 (wrap64 (x12_1 + 1))))) = some (r1, r2) := by first | (rw [hy125]; with_reducible exact H) | (have H2_ := (Option.bind_some _ _).symm.trans H; rw [hy125]; with_reducible exact H2_) | (have H2_ := (Option.bind_some _ _).symm.trans H; with_reducible exact H2_) | with_reducible exact H | (rw [hy125]; exact H) | exact H
   have Ny125 := ba_.mk hy125
   clear hy125
   obtain ⟨⟨t128, t129⟩, A16, H⟩ := Qk H
   try dsimp only at H
   by_cases c17 : t129 = true
   ·subst c17
    have H1 : (some (t128, true)) = some (r1, r2) := by rw [if_pos rfl] at H; exact H
    clear H
    have H := H1
    clear H1
    simp only [Option.some.injEq, Prod.mk.injEq] at H
    obtain ⟨rfl, rfl⟩ := H
    have p121 : 0 ≤ (x12_1 : Int) := of_decide_eq_true Qg
    have q121 : x12_1 < (l0.length : Int) := of_decide_eq_true Qg
    obtain ⟨ad121, e121, hx121_0⟩ := Kd.sd_ HR0.out x12_1 p121 q121
    cases e121
    replace hx121_0 := (HB.out.cell (World.block_lt_of_cell? w _ hx121_0)).trans hx121_0
    replace p121 := eq_true p121
    replace q121 := eq_true q121
    go_wp2_with (first | ((with_reducible refine xd_ (b := .append) (xs := #[.tmp 38, .tmp 39]) rfl ?_); at_builtin; refine Kd.pi_ (Kd.int .i64) (w0 := w) w.heap.size rfl (.tmp 38) (.tmp 39) 22 3 (.int .i64 0) 8 rfl Tryz.underlying22 gi_ rfl Qh Qa (.slice none 0 0) ([] : List Int) l1 _ _ _ (fun _ => True) (fun _ => False) rfl rfl ?aO ?aR (fun _ _ h => h) (fun _ h => h.elim) ?aF ?aB ?aS ?aL ?_; (case aR => repeat (first | exact (Kd.oe_ HR1.out HB.out) | (with_reducible refine Kd.gd_ ?_ _) | (with_reducible refine Kd.hd_ ?_ _) | (with_reducible refine Kd.yd_ ?_))); (case aB => exact Q3); (case aF => exact Xc); (case aO => exact ((Kd.yf_ _ _ _ _ (fun _ => True)))); (case aS => exact Q4); (case aL => have := LMc14.out; omega); intro v123 w18 ho hb hg hat; rw [← Ny122.out] at ho; have n0_ := ba_.mk (hb); have n1_ := ba_.mk (ho); clear HB; have HB := n0_; have HO124 := n1_; clear n0_ n1_; clear ho hb hg hat) | ((with_reducible refine xd_ (b := .append) (xs := #[.tmp 41, .tmp 43]) rfl ?_); at_builtin; refine Kd.qf_ (Kd.int .i64) (w0 := w) w.heap.size rfl (.tmp 41) (.tmp 43) 22 3 (.int .i64 0) 8 rfl Tryz.underlying22 gi_ rfl Qh Qa v123 y122 x12_1 [.int .i64 x12_1] (fun _ => True) (fun _ => False) rfl rfl ?aP (fun _ hk => hk.elim) ?aF ?aO ?aB ?aS ?aL ?_; (case aP => exact rfl); (case aB => exact Q3); (case aF => exact Xc); (case aO => exact (Ql HO124.out)); (case aS => exact Q4); (case aL => have := LMc15.out; omega); intro v126 w19 ho hb hg hat; rw [← Ny125.out] at ho; have n0_ := ba_.mk (hb); have n1_ := ba_.mk (ho); clear HB; clear HO124; have HB := n0_; have HO127 := n1_; clear n0_ n1_; clear ho hb hg hat; obtain ⟨Ao20, co20, eo20⟩ := Kd.pd_ HO127.out; subst eo20) | ((with_reducible refine ia_ (f := 89) rfl ?_); refine gc_ (some 52) rfl rfl Tryz.func89 Qb rfl #[.slice (some ad121) l0.length c0, .slice Ao20 y125.length co20, .int .i64 (wrap64 (a2 - 1)), .int .i64 (wrap64 (x12_1 + 1))] rfl Qj ?_; (with_reducible refine (ih k1 Qw _ _ l0 _ _ y125 (wrap64 (a2 - 1)) (wrap64 (x12_1 + 1)) t128 true _ ?side1 ?side2 ?side3 ?side4 A16.out).mono ?_); (case side1 => exact Q9); (case side2 => exact HC0.out); (case side3 => repeat (first | exact (Kd.cc_ HO127.out).2.2 | (with_reducible refine Kd.gd_ ?_ _) | (with_reducible refine Kd.hd_ ?_ _) | (with_reducible refine Kd.yd_ ?_))); (case side4 => exact (Kd.cc_ HO127.out).2.1); rintro e w21 ⟨v130, rfl, ho0, hb⟩; refine ⟨_, rfl, ?_⟩; have n0_ := ba_.mk (Kd.ke_ (Ql HO127.out) (Kd.if_ ho0) hb); have n1_ := ba_.mk (Kd.td_ (Kd.hf_ ho0 (Kd.R_lt (Ql HO127.out))) (za_ Qe)); have n2_ := ba_.mk (wa_ Qe hb); clear HO127; clear HB; have HO127 := n0_; have HO131 := n1_; have HB := n2_; clear n0_ n1_ n2_; (try clear hb); (try clear hb2); (try clear hk); (try clear hi); (try clear ho0)))
    go_ret2
    exact ⟨_, Qq, by (with_reducible repeat (first | apply Kd.eb_ | apply Kd.fb_ | apply Kd.rb_)); exact Kd.rd_ HO131.out (fun _ hk => trivial), Qe⟩
   replace c17 := Bool.eq_false_iff.mpr c17
   subst c17
   have H1 : (va_.l0 k1 l0 l1 a2 (wrap64 (x12_1 + 1))) = some (r1, r2) := by rw [if_neg (show ¬ (false = true) by decide)] at H; exact H
   clear H
   have H := H1
   clear H1
   have H' := ba_.mk H
   clear H
   have p121 : 0 ≤ (x12_1 : Int) := of_decide_eq_true Qg
   have q121 : x12_1 < (l0.length : Int) := of_decide_eq_true Qg
   obtain ⟨ad121, e121, hx121_0⟩ := Kd.sd_ HR0.out x12_1 p121 q121
   cases e121
   replace hx121_0 := (HB.out.cell (World.block_lt_of_cell? w _ hx121_0)).trans hx121_0
   replace p121 := eq_true p121
   replace q121 := eq_true q121
   go_wp2_with (first | ((with_reducible refine xd_ (b := .append) (xs := #[.tmp 38, .tmp 39]) rfl ?_); at_builtin; refine Kd.pi_ (Kd.int .i64) (w0 := w) w.heap.size rfl (.tmp 38) (.tmp 39) 22 3 (.int .i64 0) 8 rfl Tryz.underlying22 gi_ rfl Qh Qa (.slice none 0 0) ([] : List Int) l1 _ _ _ (fun _ => True) (fun _ => False) rfl rfl ?aO ?aR (fun _ _ h => h) (fun _ h => h.elim) ?aF ?aB ?aS ?aL ?_; (case aR => repeat (first | exact (Kd.oe_ HR1.out HB.out) | (with_reducible refine Kd.gd_ ?_ _) | (with_reducible refine Kd.hd_ ?_ _) | (with_reducible refine Kd.yd_ ?_))); (case aB => exact Q3); (case aF => exact Xc); (case aO => exact ((Kd.yf_ _ _ _ _ (fun _ => True)))); (case aS => exact Q4); (case aL => have := LMc14.out; omega); intro v123 w22 ho hb hg hat; rw [← Ny122.out] at ho; have n0_ := ba_.mk (hb); have n1_ := ba_.mk (ho); clear HB; have HB := n0_; have HO124 := n1_; clear n0_ n1_; clear ho hb hg hat) | ((with_reducible refine xd_ (b := .append) (xs := #[.tmp 41, .tmp 43]) rfl ?_); at_builtin; refine Kd.qf_ (Kd.int .i64) (w0 := w) w.heap.size rfl (.tmp 41) (.tmp 43) 22 3 (.int .i64 0) 8 rfl Tryz.underlying22 gi_ rfl Qh Qa v123 y122 x12_1 [.int .i64 x12_1] (fun _ => True) (fun _ => False) rfl rfl ?aP (fun _ hk => hk.elim) ?aF ?aO ?aB ?aS ?aL ?_; (case aP => exact rfl); (case aB => exact Q3); (case aF => exact Xc); (case aO => exact (Ql HO124.out)); (case aS => exact Q4); (case aL => have := LMc15.out; omega); intro v126 w23 ho hb hg hat; rw [← Ny125.out] at ho; have n0_ := ba_.mk (hb); have n1_ := ba_.mk (ho); clear HB; clear HO124; have HB := n0_; have HO127 := n1_; clear n0_ n1_; clear ho hb hg hat; obtain ⟨Ao24, co24, eo24⟩ := Kd.pd_ HO127.out; subst eo24) | ((with_reducible refine ia_ (f := 89) rfl ?_); refine gc_ (some 52) rfl rfl Tryz.func89 Qb rfl #[.slice (some ad121) l0.length c0, .slice Ao24 y125.length co24, .int .i64 (wrap64 (a2 - 1)), .int .i64 (wrap64 (x12_1 + 1))] rfl Qj ?_; (with_reducible refine (ih k1 Qw _ _ l0 _ _ y125 (wrap64 (a2 - 1)) (wrap64 (x12_1 + 1)) t128 false _ ?side1 ?side2 ?side3 ?side4 A16.out).mono ?_); (case side1 => exact Q9); (case side2 => exact HC0.out); (case side3 => repeat (first | exact (Kd.cc_ HO127.out).2.2 | (with_reducible refine Kd.gd_ ?_ _) | (with_reducible refine Kd.hd_ ?_ _) | (with_reducible refine Kd.yd_ ?_))); (case side4 => exact (Kd.cc_ HO127.out).2.1); rintro e w25 ⟨v130, rfl, ho0, hb⟩; refine ⟨_, rfl, ?_⟩; have n0_ := ba_.mk (Kd.ke_ (Ql HO127.out) (Kd.if_ ho0) hb); have n1_ := ba_.mk (Kd.td_ (Kd.hf_ ho0 (Kd.R_lt (Ql HO127.out))) (za_ Qe)); have n2_ := ba_.mk (wa_ Qe hb); clear HO127; clear HB; have HO127 := n0_; have HO131 := n1_; have HB := n2_; clear n0_ n1_ n2_; (try clear hb); (try clear hb2); (try clear hk); (try clear hi); (try clear ho0)))
   go_roundg k1
   case measure => have := HK1.out; omega
   case rel => exact ⟨(wrap64 (x12_1 + 1)), Qi, H', ⟨Qw⟩, ⟨Qe⟩⟩
def zd_.f (k : Nat) (l0 : List Int) : Option (List Int × Int × Int) := (ih_.f l0 (-1)).bind fun t132 => (if t132 = true then ((up_.f l0).bind fun t133 => (if (t133.length : Int) > 6 then (some (([] : List Int), 0, 25)) else ((va_.f k l0 t133 (wrap64 (Int.tdiv (wrap64 (6 - (t133.length : Int))) 2)) 0).bind fun bt136 => (if bt136.2 = true then ((gk_.f l0 bt136.1).bind fun bt140 => (some (bt140.1, bt140.2, 0))) else (some (([] : List Int), 0, 25)))))) else (some (([] : List Int), 0, 2)))
theorem zd_.mono : ∀ a0 k, LeO (zd_.f k a0) (zd_.f (k + 1) a0) := by
 intro a0 k
 unfold zd_.f
 repeat' first
   | (with_reducible exact va_.mono _ _ _ _ _)
   | (with_reducible first | exact LeO.refl _ | exact LeO.none _ | refine LeO.ite ?_ ?_ | refine LeO.bind ?_ (fun _ => ?_))
   | exact va_.mono _ _ _ _ _
   | exact LeO.none _
   | refine LeO.ite ?_ ?_
   | refine LeO.bind ?_ (fun _ => ?_)
set_option maxHeartbeats 8000000 in
set_option maxRecDepth 100000 in
theorem zd_.calls (k : Nat) (A0 : Option Addr) (c0 : Nat) (l0 : List Int) (r1 : List Int) (r2 : Int) (r3 : Int) (w : World) (hr0 : Kd.C (Kd.int .i64) w A0 l0.length l0) (hc0 : l0.length ≤ c0) (h : zd_.f k l0 = some (r1, r2, r3)) :
  Calls Tryz.prog 59 #[.slice A0 l0.length c0] w fun e w' => ∃ v0_ : Value, e = .returned (.tuple #[v0_, .int .i64 r2, .int .i64 r3]) ∧ Kd.R (Kd.int .i64) 3 w' w.heap.size (fun _ => True) v0_ r1 ∧ Below w.heap.size w w' := by
 have HR0 := ba_.mk hr0
 have HC0 := ba_.mk hc0
 clear hr0 hc0
 have HB := ba_.mk (Below.refl w.heap.size w)
 have H : ((ih_.f l0 (-1)).bind fun t132 => (if t132 = true then ((up_.f l0).bind fun t133 => (if (t133.length : Int) > 6 then (some (([] : List Int), 0, 25)) else ((va_.f k l0 t133 (wrap64 (Int.tdiv (wrap64 (6 - (t133.length : Int))) 2)) 0).bind fun bt136 => (if bt136.2 = true then ((gk_.f l0 bt136.1).bind fun bt140 => (some (bt140.1, bt140.2, 0))) else (some (([] : List Int), 0, 25)))))) else (some (([] : List Int), 0, 2)))) = some (r1, r2, r3) := h
 clear h
 obtain ⟨t132, A2, H⟩ := Qk H
 try dsimp only at H
 by_cases c3 : t132 = true
 rotate_left
 ·replace c3 := Bool.eq_false_iff.mpr c3
  subst c3
  have H1 : (some (([] : List Int), 0, 2)) = some (r1, r2, r3) := by rw [if_neg (show ¬ (false = true) by decide)] at H; exact H
  clear H
  have H := H1
  clear H1
  simp only [Option.some.injEq, Prod.mk.injEq] at H
  obtain ⟨rfl, rfl, rfl⟩ := H
  go_enter Tryz.func59, Tryz.ntmps59
  go_wp2_with (first | ((with_reducible refine ia_ (f := 87) rfl ?_); refine gc_ (some 9) rfl rfl Tryz.func87 Qb rfl #[.slice A0 l0.length c0, .int .i64 (-1)] rfl Qj ?_; (with_reducible refine (ih_.calls _ _ l0 (-1) false _ ?side1 ?side2 A2.out).mono ?_); (case side1 => exact Xa); (case side2 => exact HC0.out); rintro e w' ⟨rfl, ⟨nd, rfl⟩⟩; refine ⟨_, rfl, ?_⟩))
  go_ret3
  exact ⟨_, Qq, Q5, Qe⟩
 subst c3
 have H1 : ((up_.f l0).bind fun t133 => (if (t133.length : Int) > 6 then (some (([] : List Int), 0, 25)) else ((va_.f k l0 t133 (wrap64 (Int.tdiv (wrap64 (6 - (t133.length : Int))) 2)) 0).bind fun bt136 => (if bt136.2 = true then ((gk_.f l0 bt136.1).bind fun bt140 => (some (bt140.1, bt140.2, 0))) else (some (([] : List Int), 0, 25)))))) = some (r1, r2, r3) := by rw [if_pos rfl] at H; exact H
 clear H
 have H := H1
 clear H1
 obtain ⟨t133, A4, H⟩ := Qk H
 try dsimp only at H
 by_cases c5 : (t133.length : Int) > 6
 ·rw [if_pos c5] at H
  have c5b0 : decide (6 < (t133.length : Int)) = true := decide_eq_true c5
  have c5b1 : decide (6 < t133.length) = true := decide_eq_true Qa
  clear c5
  simp only [Option.some.injEq, Prod.mk.injEq] at H
  obtain ⟨rfl, rfl, rfl⟩ := H
  go_enter Tryz.func59, Tryz.ntmps59
  go_wp2_with (first | ((with_reducible refine ia_ (f := 87) rfl ?_); refine gc_ (some 9) rfl rfl Tryz.func87 Qb rfl #[.slice A0 l0.length c0, .int .i64 (-1)] rfl Qj ?_; (with_reducible refine (ih_.calls _ _ l0 (-1) true _ ?side1 ?side2 A2.out).mono ?_); (case side1 => exact Xa); (case side2 => exact HC0.out); rintro e w' ⟨rfl, ⟨nd, rfl⟩⟩; refine ⟨_, rfl, ?_⟩) | ((with_reducible refine ia_ (f := 88) rfl ?_); refine gc_ (some 12) rfl rfl Tryz.func88 Qb rfl #[.slice A0 l0.length c0] rfl Qj ?_; (with_reducible refine (up_.calls _ _ l0 t133 _ ?side1 ?side2 A4.out).mono ?_); (case side1 => exact Xa); (case side2 => exact HC0.out); rintro e w6 ⟨v134, rfl, ho0, hb⟩; refine ⟨_, rfl, ?_⟩; have n0_ := ba_.mk (Kd.td_ ho0 (za_ Qe)); have n1_ := ba_.mk (wa_ Qe hb); clear HB; have HO135 := n0_; have HB := n1_; clear n0_ n1_; (try clear hb); (try clear hb2); (try clear hk); (try clear hi); (try clear ho0); obtain ⟨Ao7, co7, eo7⟩ := Kd.pd_ HO135.out; subst eo7))
  go_ret3
  exact ⟨_, Qq, Q5, Qe⟩
 rw [if_neg c5] at H
 have c5b0 : decide (6 < (t133.length : Int)) = false := decide_eq_false c5
 have c5b1 : decide (6 < t133.length) = false := decide_eq_false Qa
 clear c5
 obtain ⟨⟨t136, t137⟩, A8, H⟩ := Qk H
 try dsimp only at H
 by_cases c9 : t137 = true
 rotate_left
 ·replace c9 := Bool.eq_false_iff.mpr c9
  subst c9
  have H1 : (some (([] : List Int), 0, 25)) = some (r1, r2, r3) := by rw [if_neg (show ¬ (false = true) by decide)] at H; exact H
  clear H
  have H := H1
  clear H1
  simp only [Option.some.injEq, Prod.mk.injEq] at H
  obtain ⟨rfl, rfl, rfl⟩ := H
  go_enter Tryz.func59, Tryz.ntmps59
  go_wp2_with (first | ((with_reducible refine ia_ (f := 87) rfl ?_); refine gc_ (some 9) rfl rfl Tryz.func87 Qb rfl #[.slice A0 l0.length c0, .int .i64 (-1)] rfl Qj ?_; (with_reducible refine (ih_.calls _ _ l0 (-1) true _ ?side1 ?side2 A2.out).mono ?_); (case side1 => exact Xa); (case side2 => exact HC0.out); rintro e w' ⟨rfl, ⟨nd, rfl⟩⟩; refine ⟨_, rfl, ?_⟩) | ((with_reducible refine ia_ (f := 88) rfl ?_); refine gc_ (some 12) rfl rfl Tryz.func88 Qb rfl #[.slice A0 l0.length c0] rfl Qj ?_; (with_reducible refine (up_.calls _ _ l0 t133 _ ?side1 ?side2 A4.out).mono ?_); (case side1 => exact Xa); (case side2 => exact HC0.out); rintro e w16 ⟨v134, rfl, ho0, hb⟩; refine ⟨_, rfl, ?_⟩; have n0_ := ba_.mk (Kd.td_ ho0 (za_ Qe)); have n1_ := ba_.mk (wa_ Qe hb); clear HB; have HO135 := n0_; have HB := n1_; clear n0_ n1_; (try clear hb); (try clear hb2); (try clear hk); (try clear hi); (try clear ho0); obtain ⟨Ao17, co17, eo17⟩ := Kd.pd_ HO135.out; subst eo17) | ((with_reducible refine ia_ (f := 89) rfl ?_); refine gc_ (some 23) rfl rfl Tryz.func89 Qb rfl #[.slice A0 l0.length c0, .slice Ao17 t133.length co17, .int .i64 (wrap64 (Int.tdiv (wrap64 (6 - (t133.length : Int))) 2)), .int .i64 0] rfl Qj ?_; (with_reducible refine (va_.calls k _ _ l0 _ _ t133 (wrap64 (Int.tdiv (wrap64 (6 - (t133.length : Int))) 2)) 0 t136 false _ ?side1 ?side2 ?side3 ?side4 A8.out).mono ?_); (case side1 => exact Q9); (case side2 => exact HC0.out); (case side3 => repeat (first | exact (Kd.cc_ HO135.out).2.2 | (with_reducible refine Kd.gd_ ?_ _) | (with_reducible refine Kd.hd_ ?_ _) | (with_reducible refine Kd.yd_ ?_))); (case side4 => exact (Kd.cc_ HO135.out).2.1); rintro e w18 ⟨v138, rfl, ho0, hb⟩; refine ⟨_, rfl, ?_⟩; have n0_ := ba_.mk (Kd.ke_ (Ql HO135.out) (Kd.if_ ho0) hb); have n1_ := ba_.mk (Kd.td_ (Kd.hf_ ho0 (Kd.R_lt (Ql HO135.out))) (za_ Qe)); have n2_ := ba_.mk (wa_ Qe hb); clear HO135; clear HB; have HO135 := n0_; have HO139 := n1_; have HB := n2_; clear n0_ n1_ n2_; (try clear hb); (try clear hb2); (try clear hk); (try clear hi); (try clear ho0)))
  go_ret3
  exact ⟨_, Qq, Q5, Qe⟩
 subst c9
 have H1 : ((gk_.f l0 t136).bind fun bt140 => (some (bt140.1, bt140.2, 0))) = some (r1, r2, r3) := by rw [if_pos rfl] at H; exact H
 clear H
 have H := H1
 clear H1
 obtain ⟨⟨t140, t141⟩, A10, H⟩ := Qk H
 try dsimp only at H
 simp only [Option.some.injEq, Prod.mk.injEq] at H
 obtain ⟨rfl, rfl, rfl⟩ := H
 go_enter Tryz.func59, Tryz.ntmps59
 go_wp2_with (first | ((with_reducible refine ia_ (f := 87) rfl ?_); refine gc_ (some 9) rfl rfl Tryz.func87 Qb rfl #[.slice A0 l0.length c0, .int .i64 (-1)] rfl Qj ?_; (with_reducible refine (ih_.calls _ _ l0 (-1) true _ ?side1 ?side2 A2.out).mono ?_); (case side1 => exact Xa); (case side2 => exact HC0.out); rintro e w' ⟨rfl, ⟨nd, rfl⟩⟩; refine ⟨_, rfl, ?_⟩) | ((with_reducible refine ia_ (f := 88) rfl ?_); refine gc_ (some 12) rfl rfl Tryz.func88 Qb rfl #[.slice A0 l0.length c0] rfl Qj ?_; (with_reducible refine (up_.calls _ _ l0 t133 _ ?side1 ?side2 A4.out).mono ?_); (case side1 => exact Xa); (case side2 => exact HC0.out); rintro e w11 ⟨v134, rfl, ho0, hb⟩; refine ⟨_, rfl, ?_⟩; have n0_ := ba_.mk (Kd.td_ ho0 (za_ Qe)); have n1_ := ba_.mk (wa_ Qe hb); clear HB; have HO135 := n0_; have HB := n1_; clear n0_ n1_; (try clear hb); (try clear hb2); (try clear hk); (try clear hi); (try clear ho0); obtain ⟨Ao12, co12, eo12⟩ := Kd.pd_ HO135.out; subst eo12) | ((with_reducible refine ia_ (f := 89) rfl ?_); refine gc_ (some 23) rfl rfl Tryz.func89 Qb rfl #[.slice A0 l0.length c0, .slice Ao12 t133.length co12, .int .i64 (wrap64 (Int.tdiv (wrap64 (6 - (t133.length : Int))) 2)), .int .i64 0] rfl Qj ?_; (with_reducible refine (va_.calls k _ _ l0 _ _ t133 (wrap64 (Int.tdiv (wrap64 (6 - (t133.length : Int))) 2)) 0 t136 true _ ?side1 ?side2 ?side3 ?side4 A8.out).mono ?_); (case side1 => exact Q9); (case side2 => exact HC0.out); (case side3 => repeat (first | exact (Kd.cc_ HO135.out).2.2 | (with_reducible refine Kd.gd_ ?_ _) | (with_reducible refine Kd.hd_ ?_ _) | (with_reducible refine Kd.yd_ ?_))); (case side4 => exact (Kd.cc_ HO135.out).2.1); rintro e w13 ⟨v138, rfl, ho0, hb⟩; refine ⟨_, rfl, ?_⟩; have n0_ := ba_.mk (Kd.ke_ (Ql HO135.out) (Kd.if_ ho0) hb); have n1_ := ba_.mk (Kd.td_ (Kd.hf_ ho0 (Kd.R_lt (Ql HO135.out))) (za_ Qe)); have n2_ := ba_.mk (wa_ Qe hb); clear HO135; clear HB; have HO135 := n0_; have HO139 := n1_; have HB := n2_; clear n0_ n1_ n2_; (try clear hb); (try clear hb2); (try clear hk); (try clear hi); (try clear ho0); obtain ⟨Ao14, co14, eo14⟩ := Kd.pd_ HO139.out; subst eo14))
 have D2 := ba_.mk (gk_.some A10.out)
 obtain ⟨ji, hji⟩ : ∃ j_ : Int, (wrap64 ((t136.length : Int) - 6)) = j_ := ⟨_, rfl⟩
 have hjin : ji.toNat = t136.length - 6 := by have := D2.out.1; have := D2.out.2.1; rw [← hji]; unfold wrap64; omega
 have hj0 : 0 ≤ ji := by have := D2.out.1; have := D2.out.2.1; rw [← hji]; unfold wrap64; omega
 have hj1 : ji ≤ ((t136.length : Int) : Int) := by have := D2.out.1; have := D2.out.2.1; rw [← hji]; unfold wrap64; omega
 have hjiw : (IntKind.i64.wrap ((t136.length : Int) - 6)) = ji := (yb_ _).trans hji
 obtain ⟨i027, hi027, _, hsz27, _⟩ := info_parts gi_
 have hcut := lf1_ (P := Tryz.prog) 22 3 .i64 Tryz.underlying22 hi027 Ao14 t136.length co14 ji hj0 hj1 (Kd.cc_ HO139.out).2.1
 replace hj0 := eq_true hj0
 replace hj1 := eq_true hj1
 have HBd := ba_.mk (ca_ HB.out)
 have HOd := ba_.mk (Kd.rb_ HO139.out)
 refine kh_ (n := 11) (S := fun w' => True) (ds := []) Qaq Qb rfl rfl (trivial) (fun hHeld => ?_)
 refine oc_ (i := 0) (N := some 28) (v := ?_) (a' := ?_) Qar rfl rfl Qb Qd (Or.inl ⟨by rfl, ?_⟩) ?_ ?_
 rotate_left
 ·exact Qf
 rotate_left
 ·exact Qc
 refine oc_ (i := 1) (N := some 29) (v := ?_) (a' := ?_) Qat rfl rfl Qb Qd (Or.inl ⟨by rfl, ?_⟩) ?_ ?_
 rotate_left
 ·exact Qf
 rotate_left
 ·exact Qc
 refine oc_ (i := 2) (N := some 30) (v := ?_) (a' := ?_) #[true, true, true, false, false, false, false, false, false, false, false] rfl rfl Qb Qd (Or.inl ⟨by rfl, ?_⟩) ?_ ?_
 rotate_left
 ·exact Qf
 rotate_left
 ·exact Qc
 refine oc_ (i := 3) (N := some 31) (v := ?_) (a' := ?_) #[true, true, true, true, false, false, false, false, false, false, false] rfl rfl Qb Qd (Or.inl ⟨by rfl, ?_⟩) ?_ ?_
 rotate_left
 ·exact Qf
 rotate_left
 ·exact Qc
 refine oc_ (i := 4) (N := some 32) (v := ?_) (a' := ?_) #[true, true, true, true, true, false, false, false, false, false, false] rfl rfl Qb Qd (Or.inl ⟨by rfl, ?_⟩) ?_ ?_
 rotate_left
 ·exact Qf
 rotate_left
 ·exact Qc
 refine oc_ (i := 5) (N := some 33) (v := ?_) (a' := ?_) #[true, true, true, true, true, true, false, false, false, false, false] rfl rfl Qb Qd (Or.inl ⟨by rfl, ?_⟩) ?_ ?_
 rotate_left
 ·exact Qf
 rotate_left
 ·exact Qc
 refine oc_ (i := 6) (N := some 34) (v := ?_) (a' := ?_) #[true, true, true, true, true, true, true, false, false, false, false] rfl rfl Qb Qd (Or.inl ⟨by rfl, ?_⟩) ?_ ?_
 rotate_left
 ·exact Qf
 rotate_left
 ·exact Qc
 refine one_ (i := 7) (N := some 35) #[true, true, true, true, true, true, true, true, false, false, false] rfl rfl Qb Qh (fun K hK => ?_)
 refine un_ Tryz.func90 Qb rfl #[.slice A0 l0.length c0, .slice Ao14 t136.length co14] (by rfl) rfl rfl (by simp only [List.map_toArray, List.map_cons, List.map_nil]; rfl) ?_
 with_reducible refine (lz_.calls _ _ l0 _ _ t136 t141 _ (Kd.oe_ HR0.out HBd.out) HC0.out (Kd.cc_ HOd.out).2.2 (Kd.cc_ HOd.out).2.1 D2.out.2.2.2).mono ?_
 rintro e w' ⟨rfl, ⟨nd, rfl⟩⟩
 refine ⟨_, rfl, ?_⟩
 refine hK.out _ _ (trivial) (fun hHeld => ?_)
 clear hK K
 refine kk_ (a' := ?_) ?_ ?_
 rotate_left
 ·show Act.put _ (some 35) _ = _
  simp only [Act.put, List.setIfInBounds_toArray, List.set_cons_zero, List.set_cons_succ, yb_, ac_]
  rfl
 refine oc_ (i := 8) (N := some 2) (v := ?_) (a' := ?_) #[true, true, true, true, true, true, true, true, true, false, false] rfl rfl Qb Qd (Or.inl ⟨by rfl, ?_⟩) ?_ ?_
 rotate_left
 ·exact Qf
 rotate_left
 ·exact Qc
 refine oc_ (i := 9) (N := some 3) (v := ?_) (a' := ?_) #[true, true, true, true, true, true, true, true, true, true, false] rfl rfl Qb Qd (Or.inl ⟨by rfl, ?_⟩) ?_ ?_
 rotate_left
 ·exact Qf
 rotate_left
 ·exact Qc
 refine oc_ (i := 10) (N := some 4) (v := ?_) (a' := ?_) #[true, true, true, true, true, true, true, true, true, true, true] rfl rfl Qb Qd (Or.inl ⟨by rfl, ?_⟩) ?_ ?_
 rotate_left
 ·exact Qf
 rotate_left
 ·exact Qc
 refine jk_ Qb ?_
 go_wp2
 go_ret3
 exact ⟨_, rfl, by rw [D2.out.2.2.1, ← hjin]; exact Kd.rd_ (Kd.fa1_ (m := ji.toNat) (Kd.fb_ HOd.out nd) Qa) (fun _ _ => trivial), aa_ HBd.out nd⟩
def nc_.f (a0 : Int) : Option (Int) := if (wrap64 (a0 * 2)) ≥ 32 then (some (Go.bits .xor .i64 (wrap64 (a0 * 2)) 37)) else (some (wrap64 (a0 * 2)))
set_option maxHeartbeats 8000000 in
set_option maxRecDepth 100000 in
theorem nc_.calls (a0 : Int) (r : Int) (w : World) (h : nc_.f a0 = some r) :
  Calls Tryz.prog 114 #[.int .i64 a0] w fun e w' => e = .returned (.int .i64 r) ∧ ja_ w w' := by
 have H : (if (wrap64 (a0 * 2)) ≥ 32 then (some (Go.bits .xor .i64 (wrap64 (a0 * 2)) 37)) else (some (wrap64 (a0 * 2)))) = some r := h
 clear h
 by_cases c2 : (wrap64 (a0 * 2)) ≥ 32
 ·exact Xg
 ·exact Xh
end Go.Proofs.YtpkhgapifnjbeaaGreatDoor.V
end
section
namespace Go.Proofs.YtpkhgapifnjbeaaGreatDoor.V
open RowKit G Rs Zw.PrintWords Zw.PrintLast Zw.PrintMore
attribute [local go_sem] id_ kd_ vd_ wd_ bd_ cd_ jd_ ld_
end Go.Proofs.YtpkhgapifnjbeaaGreatDoor.V
end
section
namespace Go.Proofs.YtpkhgapifnjbeaaGreatDoor.G
open RowKit Zw.PrintWords Zw.PrintLast Zw.PrintMore Rs
def hi_ (d : List Int) : Bool := decide (1 ≤ d.length ∧ d.length ≤ 9) && d.all isEl
def qh_ (n : Nat) : List Int := [(n : Int), (n : Int) + 1, (n : Int) + 2, (n : Int) + 3, (n : Int) + 4, (n : Int) + 5]
def encW (d : List Int) : List Int := d ++ List.replicate 6 (-1)
def encC (d : List Int) : List Int := fm_ (encW d) (qh_ d.length)
def encS (d : List Int) : List Int × Int := if hi_ d = true then (encC d, 0) else ([], 2)
theorem gs_ (n k : Nat) (hk : k < 6) : (qh_ n).getD k 0 = (n : Int) + k := by
 rcases (show k = 0 ∨ k = 1 ∨ k = 2 ∨ k = 3 ∨ k = 4 ∨ k = 5 from by omega) with rfl | rfl | rfl | rfl | rfl | rfl <;> simp [qh_]
theorem el_ (n k : Nat) (hk : k < 6) : PS (qh_ n) k = n + k := by
 unfold PS; rw [gs_ n k hk]; omega
theorem gg_ (n : Nat) : (qh_ n).length = 6 := rfl
theorem rv_ (n L : Nat) (hL : L = n + 6) : ue_ L (qh_ n) := by
 refine ⟨⟨by rw [gg_]; exact Nat.le_refl _, fun k hk => ?_⟩, fun i j hi hj e => ?_⟩
 ·rw [gg_] at hk; rw [gs_ n k hk]; omega
 ·rw [gg_] at hi hj; rw [el_ n i hi, el_ n j hj] at e; omega
theorem bi_ (d : List Int) : (encW d).length = d.length + 6 := by simp [encW]
theorem mg_ {d : List Int} (h : hi_ d = true) : 1 ≤ d.length ∧ d.length ≤ 9 ∧ ∀ x ∈ d, isEl x = true := by
 unfold hi_ at h
 simp only [Bool.and_eq_true, decide_eq_true_eq, List.all_eq_true] at h
 exact ⟨h.1.1, h.1.2, h.2⟩
theorem sg1_ (d : List Int) (k : Nat) (hk : k < 6) : (encW d).getD (d.length + k) 0 = -1 := by
 unfold encW
 rw [List.getD_eq_getElem?_getD, List.getElem?_append_right Qa, Nat.add_sub_cancel_left, List.getElem?_replicate, if_pos hk]; rfl
theorem tg1_ (d : List Int) (i : Nat) (hi : i < d.length) : (encW d).getD i 0 = d.getD i 0 := by
 unfold encW
 rw [List.getD_eq_getElem?_getD, List.getElem?_append_left hi, ← List.getD_eq_getElem?_getD]
theorem cm_ {d : List Int} (h : hi_ d = true) : qg_ (encW d) (qh_ d.length) (encC d) := by
 obtain ⟨h1, h2, h3⟩ := mg_ h
 have hl : (encW d).length ≤ 15 := by rw [bi_]; omega
 have hp := rv_ d.length (encW d).length (bi_ d)
 have hw : ∀ k, k < (qh_ d.length).length → -1 ≤ (encW d).getD (PS (qh_ d.length) k) 0 ∧ (encW d).getD (PS (qh_ d.length) k) 0 ≤ 31 := by
  intro k hk
  rw [gg_] at hk
  rw [el_ _ _ hk, sg1_ d k hk]; omega
 refine (kx_ hl hp hw).resolve_left fun he => ?_
 have hs := qw_ (n := 6) (M := rf_ (matFill (encW d) (qh_ d.length) 6)) (fs_ (encW d) (qh_ d.length) (Nat.le_refl _)) (oj_ hl hp)
 have : (fm_ (encW d) (qh_ d.length)).length = (encW d).length := by
  unfold fm_
  rw [if_pos (show (solR 6 (qh_ d.length).length (rf_ (matFill (encW d) (qh_ d.length) 6))).2 = true from hs), pn_]
 rw [he, bi_] at this
 simp at this
theorem xm_ {d : List Int} (h : hi_ d = true) : (encC d).length = d.length + 6 := by rw [(cm_ h).len, bi_]
theorem fx_ {d : List Int} (h : hi_ d = true) (i : Nat) (hi : i < d.length) : (encC d).getD i 0 = d.getD i 0 := by
 rw [(cm_ h).agree i (by rw [bi_]; omega) (fun k hk => by rw [gg_] at hk; rw [el_ _ _ hk]; omega), tg1_ d i hi]
theorem ak_ {d : List Int} {x : Int} (h : x ∈ d) : ∃ i, i < d.length ∧ d.getD i 0 = x := by
 obtain ⟨i, hi, e⟩ := List.mem_iff_getElem.1 h
 exact ⟨i, hi, by rw [List.getD_eq_getElem?_getD, List.getElem?_eq_getElem hi]; exact e⟩
theorem zf_ {d : List Int} {i : Nat} (h : i < d.length) : d.getD i 0 ∈ d := by
 rw [List.getD_eq_getElem?_getD, List.getElem?_eq_getElem h]; exact List.getElem_mem _
theorem enc_el {d : List Int} (h : hi_ d = true) : ∀ x ∈ encC d, isEl x = true := by
 obtain ⟨h1, h2, h3⟩ := mg_ h
 intro x hx
 obtain ⟨i, hi, rfl⟩ := ak_ hx
 rw [xm_ h] at hi
 rcases Nat.lt_or_ge i d.length with hd | hd
 ·rw [fx_ h i hd]; exact h3 _ (zf_ hd)
 have := (cm_ h).els (i - d.length) (by rw [gg_]; omega)
 rwa [el_ _ _ Qa, show d.length + (i - d.length) = i from by omega] at this
theorem ys_ {c : List Int} {low : Int} (hl : 7 ≤ c.length ∧ c.length ≤ 15) (h : ∀ x ∈ c, low ≤ x ∧ x ≤ 31) : isWord c low = true := by
 unfold isWord
 simp only [Bool.and_eq_true, decide_eq_true_eq, Bool.not_eq_true', List.any_eq_false]
 refine ⟨hl, fun x hx => ?_⟩
 have := h x hx
 simp [fg_]; omega
theorem xe_ {c : List Int} {low : Int} (h : isWord c low = true) : 7 ≤ c.length ∧ c.length ≤ 15 ∧ ∀ x ∈ c, low ≤ x ∧ x ≤ 31 := by
 unfold isWord at h
 simp only [Bool.and_eq_true, decide_eq_true_eq, Bool.not_eq_true', List.any_eq_false] at h
 refine ⟨h.1.1, h.1.2, fun x hx => ?_⟩
 have := h.2 x hx
 simp [fg_] at this
 omega
theorem hs_ {d : List Int} (h : hi_ d = true) : gf_ (encC d) = true := by
 obtain ⟨h1, h2, h3⟩ := mg_ h
 exact ra1_ (ys_ (by rw [xm_ h]; omega) (fun x hx => by have := (ge_ x).1 (enc_el h x hx); omega)) (cm_ h).cw
theorem sd1_ {d : List Int} (h : hi_ d = true) : (encC d).take d.length = d := by
 apply List.ext_getElem (by rw [List.length_take, xm_ h]; omega)
 intro i h1 h2
 rw [List.getElem_take]
 have := fx_ h i h2
 rwa [List.getD_eq_getElem?_getD, List.getD_eq_getElem?_getD, List.getElem?_eq_getElem h2, List.getElem?_eq_getElem (by rw [xm_ h]; omega)] at this
section
open E
theorem zd1_ (l : List Int) (hl : l.length ≤ 1000) : ∀ (d i k : Nat), i + d = l.length → d < k → (∀ j, j < i → l.getD j 0 ≠ -1) → ∃ v, mc_.l0 k l (-1) (l.length : Int) (i : Int) = some v ∧ (0 ≤ v ↔ ∃ x ∈ l, x = -1) := by
 intro d
 induction d with
 | zero =>
  intro i k hi hk hz
  obtain ⟨k, rfl⟩ : ∃ m, k = m + 1 := ⟨k - 1, Qa⟩
  simp only [mc_.l0]
  rw [if_neg Qa]
  refine ⟨-1, rfl, Qa, fun ⟨x, hx, e⟩ => ?_⟩
  obtain ⟨j, hj, rfl⟩ := ak_ hx
  exact absurd e (hz j Qa)
 | succ d ih =>
  intro i k hi hk hz
  obtain ⟨k, rfl⟩ : ∃ m, k = m + 1 := ⟨k - 1, Qa⟩
  have hs : wrap64 ((i : Int) + 1) = ((i + 1 : Nat) : Int) := by unfold wrap64; omega
  simp only [mc_.l0]
  rw [if_pos Qa, if_pos Qa, if_pos Qa, ye_]
  by_cases h0 : -1 = l.getD i 0
  ·rw [if_pos h0]
   exact ⟨i, rfl, fun _ => ⟨l.getD i 0, zf_ Qa, h0.symm⟩, fun _ => by omega⟩
  rw [if_neg h0, hs]
  exact ih (i + 1) k Qa Qa fun j hj => by
   rcases Nat.lt_or_ge j i with h | h
   ·exact hz j h
   ·rw [show j = i from by omega]; exact fun q => h0 q.symm
theorem oy_ (l : List Int) (hl : l.length ≤ 1000) (k : Nat) (hk : 1002 ≤ k) : tc_.f k l (-1) = some (l.any fun x => decide (x = -1)) := by
 unfold tc_.f mc_.f
 obtain ⟨v, h1, h2⟩ := zd1_ l hl l.length 0 k Qa Qa (fun j hj => by omega)
 rw [show ((0 : Nat) : Int) = 0 from rfl] at h1
 rw [h1]
 simp only [Option.bind_some, Option.some.injEq]
 rw [Bool.eq_iff_iff]
 simp only [decide_eq_true_eq, List.any_eq_true]
 exact h2
def encTo (n : Nat) : Nat → List Int
 | 0 => List.replicate 6 0
 | i + 1 => (encTo n i).set i ((n : Int) + i)
theorem wa1_ (n i : Nat) : (encTo n i).length = 6 := by
 induction i with
 | zero => rfl
 | succ i ih => simp only [encTo, List.length_set, ih]
theorem xa1_ (n : Nat) : encTo n 6 = qh_ n := by simp [encTo, qh_, List.replicate]
theorem enc_l0 (d : List Int) (hd : d.length ≤ 9) : ∀ (e i k : Nat), i + e = 6 → e < k → lc_.l0 k d (encW d) (encTo d.length i) 6 (i : Int) = some (encC d, 0) := by
 intro e
 induction e with
 | zero =>
  intro i k hi hk
  obtain ⟨k, rfl⟩ : ∃ m, k = m + 1 := ⟨k - 1, Qa⟩
  obtain rfl : i = 6 := by omega
  simp only [lc_.l0]
  rw [if_neg Qa, xa1_, fp_ (encW d) (qh_ d.length) (by rw [bi_]; omega) (rv_ d.length _ (bi_ d)).1]
  rfl
 | succ e ih =>
  intro i k hi hk
  obtain ⟨k, rfl⟩ : ∃ m, k = m + 1 := ⟨k - 1, Qa⟩
  have hs : wrap64 ((i : Int) + 1) = ((i + 1 : Nat) : Int) := by unfold wrap64; omega
  have hs2 : wrap64 ((d.length : Int) + (i : Int)) = (d.length : Int) + i := by unfold wrap64; omega
  simp only [lc_.l0]
  rw [if_pos Qa, if_pos Qa, if_pos (by rw [wa1_]; omega), hs, hs2, Int.toNat_natCast]
  exact ih (i + 1) k Qa Qa
theorem ya1_ (d : List Int) : (isWord (encW d) (-1) = true ∧ (d.any fun x => decide (x = -1)) = false) ↔ hi_ d = true := by
 constructor
 ·rintro ⟨hw, ha⟩
  obtain ⟨h1, h2, h3⟩ := xe_ hw
  rw [bi_] at h1 h2
  unfold hi_
  simp only [Bool.and_eq_true, decide_eq_true_eq, List.all_eq_true]
  refine ⟨Qa, fun x hx => ?_⟩
  have h4 := h3 x (List.mem_append_left _ hx)
  have h5 := List.any_eq_false.1 ha x hx
  simp only [decide_eq_true_eq] at h5
  exact (ge_ x).2 Qa
 intro h
 obtain ⟨h1, h2, h3⟩ := mg_ h
 refine ⟨ys_ (by rw [bi_]; omega) fun x hx => ?_, List.any_eq_false.2 fun x hx => ?_⟩
 ·rcases List.mem_append.1 hx with hx | hx
  ·have := (ge_ x).1 (h3 x hx); omega
  ·have := (List.mem_replicate.1 hx).2; omega
 have := (ge_ x).1 (h3 x hx)
 simp only [decide_eq_true_eq]; omega
theorem td1_ (d : List Int) (hd : d.length ≤ 300) (k : Nat) (hk : 1100 ≤ k) : lc_.f k d = some (encS d) := by
 obtain ⟨k, rfl⟩ : ∃ m, k = m + 1 := ⟨k - 1, Qa⟩
 unfold lc_.f tt_.f
 rw [if_pos Qa]
 simp only [Option.bind_some]
 have hwe : yg_.f (d ++ List.replicate 6 (-1)) (-1) = some (isWord (encW d) (-1)) := rfl
 rw [hwe]
 simp only [Option.bind_some]
 unfold encS
 have hiff := ya1_ d
 by_cases hw : isWord (encW d) (-1) = true
 rotate_left
 ·rw [if_neg hw, if_neg (fun h => hw (hiff.2 h).1)]
  simp only [lc_.j0]
  rw [if_pos trivial]
 rw [if_pos hw, oy_ d Qa (k + 1) Qa]
 simp only [Option.bind_some]
 by_cases ha : (d.any fun x => decide (x = -1)) = true
 ·rw [ha, if_neg (fun h => by have := (hiff.2 h).2; rw [ha] at this; cases this)]
  simp only [lc_.j0]
  rw [if_pos trivial]
 have hdat := hiff.1 ⟨hw, Bool.eq_false_iff.2 ha⟩
 rw [if_pos hdat]
 rw [show (d.any fun x => decide (x = -1)) = false from Bool.eq_false_iff.2 ha]
 simp only [lc_.j0]
 rw [if_neg Qo, if_pos Qa]
 simp only [Option.bind_some]
 exact enc_l0 d (mg_ hdat).2.1 6 0 k Qa Qa
end
end Go.Proofs.YtpkhgapifnjbeaaGreatDoor.G
end
section
namespace Go.Proofs.YtpkhgapifnjbeaaGreatDoor.G
open RowKit Zw.PrintWords Zw.PrintLast Zw.PrintMore Rs
open V
theorem jw_ (a : Int) : dc_.f a = some (isEl a) := by
 unfold dc_.f isEl
 by_cases h : a ≥ 0
 ·rw [if_pos h, decide_eq_true (show 0 ≤ a from h), Bool.true_and]
 ·rw [if_neg h, decide_eq_false (show ¬ 0 ≤ a from h), Bool.false_and]
def cpTo (d : List Int) : Nat → List Int
 | 0 => List.replicate (d.length + 6) 0
 | i + 1 => (cpTo d i).set i (d.getD i 0)
theorem cs_ (d : List Int) (i : Nat) : (cpTo d i).length = d.length + 6 := by
 induction i with
 | zero => simp [cpTo]
 | succ i ih => simp only [cpTo, List.length_set, ih]
theorem ua1_ (d : List Int) (j : Nat) : ∀ i, i ≤ d.length → (cpTo d i).getD j 0 = if j < i then d.getD j 0 else 0 := by
 intro i
 induction i with
 | zero =>
  intro _
  rw [if_neg Qa]
  simp only [cpTo]
  rw [List.getD_eq_getElem?_getD, List.getElem?_replicate]
  split <;> rfl
 | succ i ih =>
  intro hi
  simp only [cpTo]
  rw [ks_, cs_, ih Qa]
  by_cases e : i = j
  ·subst e; rw [if_pos ⟨rfl, Qa⟩, if_pos Qa]
  rw [if_neg (fun q => e q.1)]
  by_cases h : j < i
  ·rw [if_pos h, if_pos Qa]
  ·rw [if_neg h, if_neg Qa]
theorem pe1_ (d x : List Int) (hx : x = cpTo d d.length) (hd : hi_ d = true) : ∀ (e i k : Nat), i + e = 6 → e < k → ma_.l1 k d x ((qh_ d.length).take i) (i : Int) = some (encC d, 0) := by
 obtain ⟨h1, h2, h3⟩ := mg_ hd
 intro e
 induction e with
 | zero =>
  intro i k hi hk
  obtain ⟨k, rfl⟩ : ∃ m, k = m + 1 := ⟨k - 1, Qa⟩
  obtain rfl : i = 6 := by omega
  have hxl : x.length = d.length + 6 := by rw [hx, cs_]
  have hp := rv_ d.length x.length hxl
  simp only [ma_.l1]
  rw [if_neg Qa, show (qh_ d.length).take 6 = qh_ d.length from List.take_of_length_le (by rw [gg_]; omega)]
  have hel : uj_ (zeroTo x (qh_ d.length) (qh_ d.length).length) = true := by
   refine List.all_eq_true.2 fun y hy => ?_
   obtain ⟨j, hj, rfl⟩ := ak_ hy
   rw [qe_, hxl] at hj
   rw [ek_]
   by_cases hk : ∃ k, k < (qh_ d.length).length ∧ PS (qh_ d.length) k = j
   ·obtain ⟨k, hk, rfl⟩ := hk
    rw [dj_ hp _ _ _ (Nat.le_refl _) hk]; rfl
   rw [ai_ _ _ _ _ _ (fun k hk1 e => hk ⟨k, hk1, e⟩), hx, ua1_ d j _ (Nat.le_refl _)]
   split
   ·exact h3 _ (zf_ (by assumption))
   ·rfl
  rw [no_ x (qh_ d.length) Qa Qa hp.1 hel]
  have hf : qg_ x (qh_ d.length) (encC d) := by
   have hE := cm_ hd
   refine ⟨by rw [hE.len, bi_, hxl], fun i hi hk => ?_, hE.els, hE.cw⟩
   have hid : i < d.length := by
    rcases Nat.lt_or_ge i d.length with h | h
    ·exact h
    rw [hxl] at hi
    exact absurd (by rw [el_ _ _ Qa]; omega) (hk (i - d.length) (by rw [gg_]; omega))
   rw [fx_ hd i hid, hx, ua1_ d i _ (Nat.le_refl _), if_pos hid]
  rw [tl_ Qa hp hf]
  rfl
 | succ e ih =>
  intro i k hi hk
  obtain ⟨k, rfl⟩ : ∃ m, k = m + 1 := ⟨k - 1, Qa⟩
  have hs : wrap64 ((i : Int) + 1) = ((i + 1 : Nat) : Int) := by unfold wrap64; omega
  have hs2 : wrap64 ((d.length : Int) + (i : Int)) = (d.length : Int) + i := by unfold wrap64; omega
  simp only [ma_.l1]
  rw [if_pos Qa, if_pos (by rw [List.length_take]; omega), hs, hs2]
  have := ih (i + 1) k Qa Qa
  rwa [List.take_add_one, List.getElem?_eq_getElem (by rw [gg_]; omega), show (some ((qh_ d.length)[i]'(by rw [gg_]; omega))).toList = [(d.length : Int) + i] from by rw [← gs_ d.length i Qa, List.getD_eq_getElem?_getD, List.getElem?_eq_getElem (by rw [gg_]; omega)]; rfl] at this
theorem oe1_ (d : List Int) (h1 : 1 ≤ d.length) (h2 : d.length ≤ 9) : ∀ (e i k : Nat), i + e = d.length → e + 10 < k → (∀ j, j < i → isEl (d.getD j 0) = true) → ma_.l0 k d (cpTo d i) (i : Int) = some (encS d) := by
 intro e
 induction e with
 | zero =>
  intro i k hi hk hz
  obtain ⟨k, rfl⟩ : ∃ m, k = m + 1 := ⟨k - 1, Qa⟩
  obtain rfl : i = d.length := by omega
  have hd : hi_ d = true := by
   unfold hi_
   simp only [Bool.and_eq_true, decide_eq_true_eq, List.all_eq_true]
   refine ⟨⟨h1, h2⟩, fun x hx => ?_⟩
   obtain ⟨j, hj, rfl⟩ := ak_ hx
   exact hz j hj
  simp only [ma_.l0]
  rw [if_neg Qa]
  unfold encS
  rw [if_pos hd]
  exact pe1_ d _ rfl hd 6 0 k Qa Qa
 | succ e ih =>
  intro i k hi hk hz
  obtain ⟨k, rfl⟩ : ∃ m, k = m + 1 := ⟨k - 1, Qa⟩
  have hs : wrap64 ((i : Int) + 1) = ((i + 1 : Nat) : Int) := by unfold wrap64; omega
  simp only [ma_.l0]
  rw [if_pos Qa, if_pos Qa, ye_, jw_]
  simp only [Option.bind_some]
  by_cases he : isEl (d.getD i 0) = true
  rotate_left
  ·rw [if_neg he]
   unfold encS
   rw [if_neg (fun h => he ((mg_ h).2.2 _ (zf_ Qa)))]
  rw [if_pos he, if_pos (by rw [cs_]; omega), hs, Int.toNat_natCast]
  refine ih (i + 1) k Qa Qa fun j hj => ?_
  rcases Nat.lt_or_ge j i with h | h
  ·exact hz j h
  ·rw [show j = i from by omega]; exact he
theorem nz_ (d : List Int) (hd : d.length ≤ 300) (k : Nat) (hk : 100 ≤ k) : ma_.f k d = some (encS d) := by
 obtain ⟨k, rfl⟩ : ∃ m, k = m + 1 := ⟨k - 1, Qa⟩
 unfold ma_.f
 by_cases h1 : (d.length : Int) < 1
 ·rw [if_pos h1]
  simp only [ma_.j0]
  rw [if_pos trivial]
  unfold encS
  rw [if_neg (fun h => by have := (mg_ h).1; omega)]
 rw [if_neg h1]
 by_cases h2 : (d.length : Int) > 9
 ·rw [decide_eq_true h2]
  simp only [ma_.j0]
  rw [if_pos trivial]
  unfold encS
  rw [if_neg (fun h => by have := (mg_ h).2.1; omega)]
 rw [decide_eq_false h2]
 have hs : wrap64 ((d.length : Int) + 6) = ((d.length + 6 : Nat) : Int) := by unfold wrap64; omega
 simp only [ma_.j0]
 rw [if_neg Qo, hs, if_pos Qa, if_pos Qa, Int.toNat_natCast]
 exact oe1_ d Qa Qa d.length 0 k Qa Qa (fun j hj => by omega)
end Go.Proofs.YtpkhgapifnjbeaaGreatDoor.G
end
section
namespace Go.Proofs.YtpkhgapifnjbeaaGreatDoor.G
open RowKit Rs
def posN (P : Nat → Bool) : Nat → List Int
 | 0 => []
 | m + 1 => posN P m ++ if P m = true then [(m : Int)] else []
theorem uf_ {P : Nat → Bool} {x : Int} : ∀ m, x ∈ posN P m ↔ ∃ i, i < m ∧ P i = true ∧ x = (i : Int) := by
 intro m
 induction m with
 | zero => simp [posN]
 | succ m ih =>
  simp only [posN, List.mem_append, ih]
  constructor
  ·rintro (⟨i, h1, h2, h3⟩ | h)
   ·exact ⟨i, Qa, h2, h3⟩
   ·by_cases hp : P m = true
    ·rw [if_pos hp] at h
     exact ⟨m, Qa, hp, List.mem_singleton.1 h⟩
    ·rw [if_neg hp] at h; cases h
  rintro ⟨i, h1, h2, h3⟩
  rcases Nat.lt_or_ge i m with h | h
  ·exact .inl ⟨i, h, h2, h3⟩
  obtain rfl : i = m := by omega
  exact .inr (by rw [if_pos h2]; exact List.mem_singleton.2 h3)
theorem hw_ (P : Nat → Bool) (m : Nat) : (posN P m).Pairwise (· < ·) := by
 induction m with
 | zero => exact List.Pairwise.nil
 | succ m ih =>
  simp only [posN]
  refine List.pairwise_append.2 ⟨ih, ?_, fun a ha b hb => ?_⟩
  ·split <;> simp
  obtain ⟨i, h1, _, rfl⟩ := (uf_ m).1 ha
  split at hb
  ·rw [List.mem_singleton.1 hb]; omega
  ·cases hb
theorem gw_ (P Q R : Nat → Bool) (h : ∀ i, P i = true → Q i = true ∨ R i = true) (m : Nat) : (posN P m).length ≤ (posN Q m).length + (posN R m).length := by
 induction m with
 | zero => simp [posN]
 | succ m ih =>
  simp only [posN, List.length_append]
  by_cases hp : P m = true
  rotate_left
  ·exact Yv
  rw [if_pos hp]
  rcases h m hp with h | h
  ·rw [if_pos h]; simp only [List.length_singleton]; omega
  ·rw [if_pos h]; simp only [List.length_singleton]; omega
theorem rp_ (P Q : Nat → Bool) (m : Nat) (h : ∀ i, i < m → P i = true → Q i = true) : (posN P m).length ≤ (posN Q m).length := by
 induction m with
 | zero => simp [posN]
 | succ m ih =>
  have := ih (fun i hi => h i Qa)
  simp only [posN, List.length_append]
  by_cases hp : P m = true
  ·rw [if_pos hp, if_pos (h m Qa hp)]; simp only [List.length_singleton]; omega
  ·exact Yv
theorem le1_ (P Q : Nat → Bool) (j m : Nat) (h : ∀ i, i < m → P i = true → Q i = true ∨ i = j) : (posN P m).length ≤ (posN Q m).length + 1 := by
 have h1 : (posN P m).length ≤ (posN Q m).length + (posN (fun i => decide (i = j)) m).length := by
  have := gw_ (fun i => P i && decide (i < m)) Q (fun i => decide (i = j)) (fun i hi => by
   simp only [Bool.and_eq_true, decide_eq_true_eq] at hi
   rcases h i hi.2 hi.1 with h | h
   ·exact .inl h
   ·exact .inr (by simpa using h)) m
  refine Nat.le_trans (rp_ P _ m (fun i hi hp => by simp [hp, hi])) this
 have h2 : ∀ m, (posN (fun i => decide (i = j)) m).length ≤ if j < m then 1 else 0 := by
  intro m
  induction m with
  | zero => simp [posN]
  | succ m ih =>
   simp only [posN, List.length_append]
   by_cases e : m = j
   ·subst e
    rw [if_neg Qa] at ih
    rw [if_pos Qo, if_pos Qa]
    simp only [List.length_singleton]; omega
   rw [if_neg (by simpa using e)]
   simp only [List.length_nil, Nat.add_zero]
   split at ih
   ·rw [if_pos Qa]; exact ih
   ·omega
 have := h2 m
 split at this <;> omega
theorem th1_ (P Q : Nat → Bool) (j m : Nat) (hj : j < m) (hQ : Q j = true) (hP : P j = false) (h : ∀ i, i < m → P i = true → Q i = true) : (posN P m).length + 1 ≤ (posN Q m).length := by
 induction m with
 | zero => omega
 | succ m ih =>
  simp only [posN, List.length_append]
  by_cases e : j = m
  ·subst e
   have := rp_ P Q j (fun i hi => h i Qa)
   rw [if_pos hQ, if_neg (by rw [hP]; simp)]
   simp only [List.length_singleton, List.length_nil]; omega
  have := ih Qa (fun i hi => h i Qa)
  by_cases hp : P m = true
  ·rw [if_pos hp, if_pos (h m Qa hp)]; simp only [List.length_singleton]; omega
  ·exact Yv
theorem dc1_ {P : Nat → Bool} {m : Nat} (h : (posN P m).length = 0) (i : Nat) (hi : i < m) : P i = false := by
 have h1 := List.eq_nil_of_length_eq_zero h
 by_cases hp : P i = true
 ·have : (i : Int) ∈ posN P m := (uf_ m).2 ⟨i, hi, hp, rfl⟩
  rw [h1] at this; cases this
 ·simpa using hp
theorem ko_ {n : Nat} {ps : List Int} (h6 : ps.length ≤ 6) (hs : ps.Nodup) (hr : ∀ x ∈ ps, 0 ≤ x ∧ x < n) : ue_ n ps := by
 refine ⟨⟨h6, fun k hk => hr _ (zf_ hk)⟩, fun i j hi hj e => ?_⟩
 have h1 := hr _ (zf_ hi)
 have h2 := hr _ (zf_ hj)
 have e2 : ps.getD i 0 = ps.getD j 0 := by unfold PS at e; omega
 rw [List.getD_eq_getElem?_getD, List.getD_eq_getElem?_getD, List.getElem?_eq_getElem hi, List.getElem?_eq_getElem hj] at e2
 have e3 := Option.some.inj (show some ps[i] = some ps[j] from by simpa using e2)
 rcases Nat.lt_trichotomy i j with h | h | h
 ·exact absurd e3 (List.pairwise_iff_getElem.1 hs i j hi hj h)
 ·exact h
 ·exact absurd e3.symm (List.pairwise_iff_getElem.1 hs j i hj hi h)
theorem xi_ (P : Nat → Bool) (m : Nat) : (posN P m).Nodup := (hw_ P m).imp (fun h => by omega)
theorem cc1_ {P : Nat → Bool} {n : Nat} (h6 : (posN P n).length ≤ 6) : ue_ n (posN P n) := ko_ h6 (xi_ P n) fun x hx => by
 obtain ⟨i, h1, _, rfl⟩ := (uf_ n).1 hx
 omega
theorem xq_ {ps : List Int} {i : Nat} (h : (i : Int) ∈ ps) : ∃ k, k < ps.length ∧ PS ps k = i := by
 obtain ⟨k, hk, e⟩ := ak_ h
 exact ⟨k, hk, by unfold PS; rw [e]; omega⟩
theorem rx_ {ps : List Int} {n k : Nat} (hp : mf_ n ps) (hk : k < ps.length) : ((PS ps k : Nat) : Int) ∈ ps := by
 have := hp.2 k hk
 unfold PS
 rw [Int.toNat_of_nonneg this.1]
 exact zf_ hk
theorem eh_ (w : List Int) (m : Nat) : eraN w m = posN (fun i => decide (w.getD i 0 < 0)) m := by
 induction m with
 | zero => rfl
 | succ m ih => simp only [eraN, posN, ih, decide_eq_true_eq]
theorem co_ (w c : List Int) (m : Nat) : errN w c m = (posN (fun i => decide (0 ≤ w.getD i 0) && decide (w.getD i 0 ≠ c.getD i 0)) m).length := by
 induction m with
 | zero => rfl
 | succ m ih =>
  simp only [errN, posN, ih, List.length_append]
  congr 1
  by_cases h : 0 ≤ w.getD m 0 ∧ w.getD m 0 ≠ c.getD m 0
  ·rw [if_pos h, if_pos (by simp only [Bool.and_eq_true, decide_eq_true_eq]; exact h)]; rfl
  ·rw [if_neg h, if_neg (by simp only [Bool.and_eq_true, decide_eq_true_eq]; exact h)]; rfl
structure Near (w c : List Int) : Prop where
 code : gf_ c = true
 len : c.length = w.length
 near : 2 * errN w c w.length + (eraN w w.length).length ≤ 6
theorem xo_ {c : List Int} (h : gf_ c = true) (i : Nat) (hi : i < c.length) : isEl (c.getD i 0) = true := bl_ (jq_ (lg_ h).1).1 i hi
theorem qt_ {c c' ps : List Int} (h' : gf_ c' = true) (hp : ue_ c.length ps) (hl : c'.length = c.length) (ha : ∀ i, i < c.length → (i : Int) ∉ ps → c'.getD i 0 = c.getD i 0) : qg_ c ps c' :=
 ⟨hl, fun i hi hk => ha i hi (fun hm => by obtain ⟨k, h1, h2⟩ := xq_ hm; exact hk k h1 h2), fun k hk => xo_ h' _ (by rw [hl]; exact hp.lt hk), (lg_ h').2⟩
theorem dw_ {w c c' : List Int} (h : Near w c) (h' : Near w c') : c = c' := by
 obtain ⟨P, hP⟩ : ∃ P : Nat → Bool, P = fun i => decide (w.getD i 0 < 0) || ((decide (0 ≤ w.getD i 0) && decide (w.getD i 0 ≠ c.getD i 0)) || (decide (0 ≤ w.getD i 0) && decide (w.getD i 0 ≠ c'.getD i 0))) := ⟨_, rfl⟩
 have hn := h.near
 have hn' := h'.near
 have h6 : (posN P w.length).length ≤ 6 := by
  have a1 := gw_ P (fun i => decide (w.getD i 0 < 0)) (fun i => (decide (0 ≤ w.getD i 0) && decide (w.getD i 0 ≠ c.getD i 0)) || (decide (0 ≤ w.getD i 0) && decide (w.getD i 0 ≠ c'.getD i 0))) (fun i hi => by rw [hP] at hi; simpa [Bool.or_eq_true] using hi) w.length
  have a2 := gw_ (fun i => (decide (0 ≤ w.getD i 0) && decide (w.getD i 0 ≠ c.getD i 0)) || (decide (0 ≤ w.getD i 0) && decide (w.getD i 0 ≠ c'.getD i 0))) (fun i => decide (0 ≤ w.getD i 0) && decide (w.getD i 0 ≠ c.getD i 0)) (fun i => decide (0 ≤ w.getD i 0) && decide (w.getD i 0 ≠ c'.getD i 0)) (fun i hi => by simpa only [Bool.or_eq_true] using hi) w.length
  rw [← eh_] at a1
  rw [← co_, ← co_] at a2
  omega
 have hD : ue_ c.length (posN P w.length) := by rw [h.len]; exact cc1_ h6
 have hag : ∀ i, i < c.length → (i : Int) ∉ posN P w.length → c'.getD i 0 = c.getD i 0 := by
  intro i hi hm
  have hi' : P i ≠ true := fun hp => hm ((uf_ _).2 ⟨i, by rw [← h.len]; exact hi, hp, rfl⟩)
  rw [hP] at hi'
  have b1 : ¬ w.getD i 0 < 0 := fun q => hi' (by simp only [Bool.or_eq_true, Bool.and_eq_true, decide_eq_true_eq]; exact .inl q)
  have b2 : w.getD i 0 = c.getD i 0 := Classical.byContradiction fun q => hi' (by simp only [Bool.or_eq_true, Bool.and_eq_true, decide_eq_true_eq]; exact .inr (.inl ⟨Qa, q⟩))
  have b3 : w.getD i 0 = c'.getD i 0 := Classical.byContradiction fun q => hi' (by simp only [Bool.or_eq_true, Bool.and_eq_true, decide_eq_true_eq]; exact .inr (.inr ⟨Qa, q⟩))
  omega
 have hl := (jq_ (lg_ h.code).1).2.2
 exact qg_.uniq hl hD (qt_ h.code hD rfl (fun i hi _ => rfl)) (qt_ h'.code hD (by rw [h'.len, h.len]) hag)
end Go.Proofs.YtpkhgapifnjbeaaGreatDoor.G
end
section
namespace Go.Proofs.YtpkhgapifnjbeaaGreatDoor.G
open RowKit Zw.PrintWords Zw.PrintLast Zw.PrintMore Rs
open V
def difP (w c ps : List Int) (i : Nat) : Bool := decide ((i : Int) ∉ ps) && decide (w.getD i 0 ≠ c.getD i 0)
def difN (w c ps : List Int) : Nat := (posN (difP w c ps) w.length).length
theorem ng_ {w c ps : List Int} {i : Nat} : difP w c ps i = true ↔ (i : Int) ∉ ps ∧ w.getD i 0 ≠ c.getD i 0 := by
 unfold difP
 simp only [Bool.and_eq_true, decide_eq_true_eq]
theorem sk_ {P : Nat → Bool} {m : Nat} (h : ∀ i, i < m → P i = false) : (posN P m).length = 0 := by
 induction m with
 | zero => rfl
 | succ m ih =>
  simp only [posN, List.length_append]
  rw [ih (fun i hi => h i Qa), if_neg (by rw [h m Qa]; simp)]; rfl
structure Srch (w ps : List Int) (more fr : Nat) : Prop where
 nodup : ps.Nodup
 rng : ∀ x ∈ ps, 0 ≤ x ∧ x < w.length
 era : ∀ i, i < w.length → w.getD i 0 < 0 → (i : Int) ∈ ps
 frm : ∀ i, fr ≤ i → i < w.length → (i : Int) ∈ ps → w.getD i 0 < 0
 len : ps.length + more ≤ 6
section
variable {w ps : List Int} {more fr : Nat}
theorem Srch.D (h : Srch w ps more fr) : ue_ w.length ps := ko_ (by have := h.len; omega) h.nodup h.rng
theorem Srch.el (hw : isWord w (-1) = true) (h : Srch w ps more fr) : uj_ (zeroTo w ps ps.length) = true := by
 obtain ⟨h1, h2, h3⟩ := xe_ hw
 refine List.all_eq_true.2 fun y hy => ?_
 obtain ⟨j, hj, rfl⟩ := ak_ hy
 rw [qe_] at hj
 rw [ek_]
 by_cases hk : ∃ k, k < ps.length ∧ PS ps k = j
 ·obtain ⟨k, hk, rfl⟩ := hk
  rw [dj_ h.D _ _ _ (Nat.le_refl _) hk]; rfl
 have hk' : ∀ k, k < ps.length → PS ps k ≠ j := fun k hk1 e => hk ⟨k, hk1, e⟩
 rw [ai_ _ _ _ _ _ hk']
 have h4 := h3 _ (zf_ hj)
 have h5 : ¬ w.getD j 0 < 0 := fun q => by obtain ⟨k, a, b⟩ := xq_ (h.era j hj q); exact hk' k a b
 exact (ge_ _).2 Qa
theorem Srch.fill (hw : isWord w (-1) = true) (h : Srch w ps more fr) : tk_.f w ps = some (fillS w ps) := by
 obtain ⟨h1, h2, h3⟩ := xe_ hw
 exact no_ w ps Qa h2 h.D.1 (h.el hw)
theorem mx_ {c : List Int} (hp : ue_ w.length ps) (h : qg_ w ps c) : difN w c ps = 0 := by
 refine sk_ fun i hi => ?_
 by_cases hd : difP w c ps i = true
 ·obtain ⟨a, b⟩ := ng_.1 hd
  exact absurd (h.agree i hi (fun k hk e => a (by rw [← e]; exact rx_ hp.1 hk))).symm b
 ·simpa using hd
theorem ex_ {c : List Int} (hp : ue_ w.length ps) (hc : gf_ c = true) (hl : c.length = w.length) (h : difN w c ps = 0) : qg_ w ps c := by
 refine ⟨hl, fun i hi hk => ?_, fun k hk => xo_ hc _ (by rw [hl]; exact hp.lt hk), (lg_ hc).2⟩
 have := dc1_ h i hi
 have h2 : (i : Int) ∉ ps := fun hm => by obtain ⟨k, a, b⟩ := xq_ hm; exact hk k a b
 exact Classical.byContradiction fun q => by
  have h3 := ng_.2 ⟨h2, fun e => q e.symm⟩
  rw [this] at h3; cases h3
def Sound (w ps : List Int) (more : Nat) (r : List Int × Bool) : Prop := r.2 = true → gf_ r.1 = true ∧ r.1.length = w.length ∧ difN w r.1 ps ≤ more
def Compl (w ps : List Int) (more fr : Nat) (r : List Int × Bool) : Prop := ∀ c, gf_ c = true → c.length = w.length → difN w c ps ≤ more → (∀ i, i < w.length → difP w c ps i = true → fr ≤ i) → r.2 = true
theorem Srch.next (h : Srch w ps (more + 1) fr) {i : Nat} (hf : fr ≤ i) (hi : i < w.length) (h0 : ¬ w.getD i 0 < 0) : Srch w (ps ++ [(i : Int)]) more (i + 1) := by
 have hni : (i : Int) ∉ ps := fun hm => h0 (h.frm i hf hi hm)
 refine ⟨List.nodup_append.2 ⟨h.nodup, Qo, fun a ha b hb e => hni (by rw [List.mem_singleton.1 hb] at e; rw [← e]; exact ha)⟩, fun x hx => ?_, fun j hj hz => List.mem_append_left _ (h.era j hj hz), fun j h1 h2 h3 => ?_, ?_⟩
 ·rcases List.mem_append.1 hx with hx | hx
  ·exact h.rng x hx
  ·rw [List.mem_singleton.1 hx]; omega
 ·rcases List.mem_append.1 h3 with h3 | h3
  ·exact h.frm j Qa h2 h3
  ·have := List.mem_singleton.1 h3; omega
 have := h.len
 simp only [List.length_append, List.length_singleton]; omega
theorem qd1_ (c : List Int) (i : Nat) : difN w c ps ≤ difN w c (ps ++ [(i : Int)]) + 1 := by
 refine le1_ _ _ i _ fun j hj hd => ?_
 obtain ⟨a, b⟩ := ng_.1 hd
 by_cases e : j = i
 ·exact .inr e
 ·exact .inl (ng_.2 ⟨fun hm => (List.mem_append.1 hm).elim a (fun q => e (by have := List.mem_singleton.1 q; omega)), b⟩)
theorem pd1_ {c : List Int} {i : Nat} (hi : i < w.length) (hd : difP w c ps i = true) : difN w c (ps ++ [(i : Int)]) + 1 ≤ difN w c ps := by
 refine th1_ _ _ i _ hi hd ?_ fun j hj hd => ?_
 ·have : ¬ difP w c (ps ++ [(i : Int)]) i = true := fun q => (ng_.1 q).1 Qo
  simpa using this
 obtain ⟨a, b⟩ := ng_.1 hd
 exact ng_.2 ⟨fun hm => a (List.mem_append_left _ hm), b⟩
theorem rd1_ {c : List Int} {i : Nat} (hp : ∀ x, x < w.length → difP w c ps x = true → i ≤ x) : ∀ x, x < w.length → difP w c (ps ++ [(i : Int)]) x = true → i + 1 ≤ x := by
 intro x hx hqx
 obtain ⟨a, b⟩ := ng_.1 hqx
 have h4 := hp x hx (ng_.2 ⟨fun hm => a (List.mem_append_left _ hm), b⟩)
 have h5 : x ≠ i := fun e => a (List.mem_append_right _ (by rw [e]; exact List.mem_singleton.2 rfl))
 omega
theorem mc1_ (hw : isWord w (-1) = true) (ih : ∀ (ps : List Int) (fr k : Nat), Srch w ps more fr → (more + 1) * 20 < k → ∃ r, va_.f k w ps (more : Int) (fr : Int) = some r ∧ Sound w ps more r ∧ Compl w ps more fr r)
  (h : Srch w ps (more + 1) fr) (hno : ∀ c, gf_ c = true → c.length = w.length → difN w c ps ≠ 0) : ∀ (d i k : Nat), i + d = w.length → (more + 1) * 20 + d + 1 < k → fr ≤ i → ∃ r, va_.l0 k w ps ((more + 1 : Nat) : Int) (i : Int) = some r ∧ Sound w ps (more + 1) r ∧ Compl w ps (more + 1) i r := by
 obtain ⟨w1, w2, w3⟩ := xe_ hw
 have hlen := h.len
 intro d
 induction d with
 | zero =>
  intro i k hi hk hf
  obtain ⟨k, rfl⟩ : ∃ m, k = m + 1 := ⟨k - 1, Qa⟩
  simp only [va_.l0]
  rw [if_neg Qa]
  refine ⟨([], false), rfl, (fun q => by cases q), fun c hc hl hd hp => absurd (sk_ fun j hj => ?_) (hno c hc hl)⟩
  by_cases q : difP w c ps j = true
  ·have := hp j hj q; omega
  ·simpa using q
 | succ d ihd =>
  intro i k hi hk hf
  obtain ⟨k, rfl⟩ : ∃ m, k = m + 1 := ⟨k - 1, Qa⟩
  have hs : wrap64 ((i : Int) + 1) = ((i + 1 : Nat) : Int) := by unfold wrap64; omega
  have hs2 : wrap64 (((more + 1 : Nat) : Int) - 1) = (more : Int) := by unfold wrap64; omega
  simp only [va_.l0]
  rw [if_pos Qa, if_pos Qa, ye_, hs, hs2]
  obtain ⟨r, hr, hS, hC⟩ := ihd (i + 1) k Qa Qa Qa
  by_cases h0 : w.getD i 0 < 0
  ·rw [if_pos h0]
   refine ⟨r, hr, hS, fun c hc hl hd hp => hC c hc hl hd fun j hj hq => ?_⟩
   have := hp j hj hq
   have : j ≠ i := fun e => (ng_.1 hq).1 (by rw [e]; exact h.era i Qa h0)
   omega
  rw [if_neg h0]
  have hnx := h.next hf Qa h0
  obtain ⟨r', hr', hS', hC'⟩ := ih (ps ++ [(i : Int)]) (i + 1) k hnx Qa
  rw [if_pos (by simp only [List.length_nil]; omega)]
  simp only [List.nil_append, Option.bind_some]
  rw [if_pos Qa, hr']
  simp only [Option.bind_some]
  by_cases h2 : r'.2 = true
  ·rw [if_pos h2]
   obtain ⟨a, b, c⟩ := hS' h2
   have hm := qd1_ (w := w) (ps := ps) r'.1 i
   have hm2 : difN w r'.1 ps ≤ more + 1 := by omega
   exact ⟨(r'.1, true), rfl, fun _ => ⟨a, b, hm2⟩, fun _ _ _ _ _ => rfl⟩
  rw [if_neg h2]
  refine ⟨r, hr, hS, fun c hc hl hd hp => hC c hc hl hd fun j hj hq => ?_⟩
  have h3 := hp j hj hq
  by_cases e : j = i
  rotate_left
  ·omega
  subst e
  have h6 : j < w.length := hj
  have h5 : difN w c (ps ++ [(j : Int)]) ≤ more := Nat.le_of_succ_le_succ (Nat.le_trans (pd1_ h6 hq) hd)
  exact absurd (hC' c hc hl h5 (rd1_ hp)) h2
theorem nc1_ (hw : isWord w (-1) = true) : ∀ (more : Nat) (ps : List Int) (fr k : Nat), Srch w ps more fr → (more + 1) * 20 < k → ∃ r, va_.f k w ps (more : Int) (fr : Int) = some r ∧ Sound w ps more r ∧ Compl w ps more fr r := by
 obtain ⟨w1, w2, w3⟩ := xe_ hw
 intro more
 induction more with
 | zero =>
  intro ps fr k h hk
  obtain ⟨k, rfl⟩ : ∃ m, k = m + 1 := ⟨k - 1, Qa⟩
  simp only [va_.f]
  rw [h.fill hw]
  simp only [Option.bind_some]
  by_cases h2 : (fillS w ps).2 = true
  ·rw [if_pos h2]
   obtain ⟨a, b⟩ := lx_ w2 h.D h2
   have hm2 : difN w (fillS w ps).1 ps ≤ 0 := by rw [mx_ h.D a]; exact Nat.zero_le _
   exact ⟨((fillS w ps).1, true), rfl, fun _ => ⟨b, a.len, hm2⟩, fun _ _ _ _ _ => rfl⟩
  rw [if_neg h2, if_pos Qa]
  refine ⟨([], false), rfl, (fun q => by cases q), fun c hc hl hd _ => absurd ?_ h2⟩
  rw [tl_ w2 h.D (ex_ h.D hc hl Qa)]
  exact hc
 | succ more ih =>
  intro ps fr k h hk
  obtain ⟨k, rfl⟩ : ∃ m, k = m + 1 := ⟨k - 1, Qa⟩
  simp only [va_.f]
  rw [h.fill hw]
  simp only [Option.bind_some]
  by_cases h2 : (fillS w ps).2 = true
  ·rw [if_pos h2]
   obtain ⟨a, b⟩ := lx_ w2 h.D h2
   have hm2 : difN w (fillS w ps).1 ps ≤ more + 1 := by rw [mx_ h.D a]; exact Nat.zero_le _
   exact ⟨((fillS w ps).1, true), rfl, fun _ => ⟨b, a.len, hm2⟩, fun _ _ _ _ _ => rfl⟩
  rw [if_neg h2, if_neg Qa]
  have hno : ∀ c, gf_ c = true → c.length = w.length → difN w c ps ≠ 0 := fun c hc hl hd => h2 (by rw [tl_ w2 h.D (ex_ h.D hc hl hd)]; exact hc)
  rcases Nat.lt_or_ge w.length fr with hfr | hfr
  ·obtain ⟨k, rfl⟩ : ∃ m, k = m + 1 := ⟨k - 1, Qa⟩
   simp only [va_.l0]
   rw [if_neg Qa]
   refine ⟨([], false), rfl, (fun q => by cases q), fun c hc hl hd hp => absurd (sk_ fun j hj => ?_) (hno c hc hl)⟩
   by_cases q : difP w c ps j = true
   ·have := hp j hj q; omega
   ·simpa using q
  ·exact mc1_ hw ih h hno (w.length - fr) fr k Qa Qa (Nat.le_refl _)
end
end Go.Proofs.YtpkhgapifnjbeaaGreatDoor.G
end
section
namespace Go.Proofs.YtpkhgapifnjbeaaGreatDoor.G
open RowKit Zw.PrintWords Zw.PrintLast Zw.PrintMore Rs
open V
open Classical in
noncomputable def decS (w : List Int) : List Int × Int × Int :=
 if isWord w (-1) = true then
  (if h : ∃ c, Near w c then ((Classical.choose h).take (w.length - 6), ((errN w (Classical.choose h) w.length : Nat) : Int), 0) else ([], 0, 25))
 else ([], 0, 2)
theorem bm_ {w c : List Int} (hw : isWord w (-1) = true) (h : Near w c) : decS w = (c.take (w.length - 6), ((errN w c w.length : Nat) : Int), 0) := by
 have h' : ∃ c, Near w c := ⟨c, h⟩
 unfold decS
 rw [if_pos hw, dif_pos h', dw_ (Classical.choose_spec h') h]
theorem am_ {w : List Int} (hw : isWord w (-1) = true) (h : ∀ c, ¬ Near w c) : decS w = ([], 0, 25) := by
 unfold decS
 rw [if_pos hw, dif_neg (fun ⟨c, hc⟩ => h c hc)]
theorem es_ {w : List Int} (hw : ¬ isWord w (-1) = true) : decS w = ([], 0, 2) := by
 unfold decS
 rw [if_neg hw]
theorem vv_ (w c : List Int) : errN w c w.length = difN w c (eraN w w.length) := by
 rw [co_, eh_]
 unfold difN
 apply Nat.le_antisymm
 ·refine rp_ _ _ _ fun i hi h => ?_
  simp only [Bool.and_eq_true, decide_eq_true_eq] at h
  refine ng_.2 ⟨fun hm => ?_, h.2⟩
  obtain ⟨j, _, h2, h3⟩ := (uf_ _).1 hm
  simp only [decide_eq_true_eq] at h2
  rw [show i = j from by omega] at h
  omega
 refine rp_ _ _ _ fun i hi h => ?_
 obtain ⟨a, b⟩ := ng_.1 h
 simp only [Bool.and_eq_true, decide_eq_true_eq]
 refine ⟨?_, b⟩
 rcases Int.lt_or_le (w.getD i 0) 0 with h0 | h0
 ·exact absurd ((uf_ _).2 ⟨i, hi, by simpa using h0, rfl⟩) a
 ·exact h0
theorem ym_ (w : List Int) (i : Nat) : (i : Int) ∈ eraN w w.length ↔ i < w.length ∧ w.getD i 0 < 0 := by
 rw [eh_, uf_]
 constructor
 ·rintro ⟨j, h1, h2, h3⟩
  rw [show i = j from by omega]
  exact ⟨h1, of_decide_eq_true h2⟩
 rintro ⟨h1, h2⟩
 exact ⟨i, h1, decide_eq_true h2, rfl⟩
theorem wz_ {w : List Int} {more : Nat} (h : (eraN w w.length).length + more ≤ 6) : Srch w (eraN w w.length) more 0 := by
 refine ⟨by rw [eh_]; exact xi_ _ _, fun x hx => ?_, fun i hi h0 => (ym_ w i).2 ⟨hi, h0⟩, fun i _ hi hm => ((ym_ w i).1 hm).2, h⟩
 rw [eh_] at hx
 obtain ⟨j, h1, _, rfl⟩ := (uf_ _).1 hx
 omega
theorem mz_ (w : List Int) (hl : w.length ≤ 300) (k : Nat) (hk : 100 ≤ k) : zd_.f k w = some (decS w) := by
 unfold zd_.f
 simp only [ih_.f, Option.bind_some]
 by_cases hw : isWord w (-1) = true
 rotate_left
 ·rw [if_neg hw, es_ hw]
 rw [if_pos hw]
 obtain ⟨w1, w2, w3⟩ := xe_ hw
 unfold up_.f
 rw [if_pos Qa]
 simp only [Option.bind_some]
 by_cases h6 : ((eraN w w.length).length : Int) > 6
 ·rw [if_pos h6, am_ hw (fun c hc => by have := hc.near; omega)]
 rw [if_neg h6]
 obtain ⟨more, hm⟩ : ∃ more, more = (6 - (eraN w w.length).length) / 2 := ⟨_, rfl⟩
 have e1 : wrap64 (Int.tdiv (wrap64 (6 - ((eraN w w.length).length : Int))) 2) = (more : Int) := by
  have : wrap64 (6 - ((eraN w w.length).length : Int)) = ((6 - (eraN w w.length).length : Nat) : Int) := by unfold wrap64; omega
  rw [this, show Int.tdiv ((6 - (eraN w w.length).length : Nat) : Int) 2 = (((6 - (eraN w w.length).length) / 2 : Nat) : Int) from by simp [Int.tdiv_eq_ediv]]
  rw [← hm]; unfold wrap64; omega
 obtain ⟨r, hr, hS, hC⟩ := nc1_ hw more (eraN w w.length) 0 k (wz_ Qa) Qa
 rw [e1, show (0 : Int) = ((0 : Nat) : Int) from rfl, hr]
 simp only [Option.bind_some]
 by_cases h2 : r.2 = true
 rotate_left
 ·rw [if_neg h2, am_ hw fun c hc => h2 (hC c hc.code hc.len (by rw [← vv_]; have := hc.near; omega) (fun i _ _ => Nat.zero_le _))]
  rfl
 rw [if_pos h2]
 obtain ⟨a, b, c⟩ := hS h2
 have hn : Near w r.1 := ⟨a, b, by rw [vv_]; omega⟩
 rw [bm_ hw hn]
 unfold gk_.f
 rw [if_pos ⟨Qa, Qa, Qa⟩, b]
 rfl
end Go.Proofs.YtpkhgapifnjbeaaGreatDoor.G
end
section
namespace Go.Proofs.YtpkhgapifnjbeaaGreatDoor.G
open RowKit Rs
theorem il_ (n : Nat) (f : Nat → GF) : gsum (n + 1) f = f 0 + gsum n (fun k => f (k + 1)) := by
 induction n with
 | zero => show gsum 0 f + f 0 = f 0 + 0; rw [GF.add_zero]; exact GF.zero_add _
 | succ n ih =>
  show gsum (n + 1) f + f (n + 1) = f 0 + (gsum n (fun k => f (k + 1)) + f (n + 1))
  rw [ih, GF.add_assoc]
theorem hl_ (n : Nat) (c : GF) (f : Nat → GF) : gsum n (fun i => f i * c) = gsum n f * c := by
 rw [GF.mul_comm, ← gh_]
 exact fd_ fun i _ => GF.mul_comm _ _
def pc (X : Nat → GF) : Nat → Nat → GF
 | 0, k => if k = 0 then 1 else 0
 | i + 1, k => pc X i k + (if k = 0 then 0 else pc X i (k - 1)) * X i
def prodX (X : Nat → GF) (z : GF) : Nat → GF
 | 0 => 1
 | i + 1 => prodX X z i * (z + X i)
theorem pc_hi (X : Nat → GF) : ∀ i k, i < k → pc X i k = 0 := by
 intro i
 induction i with
 | zero => intro k hk; simp only [pc]; rw [if_neg Qa]
 | succ i ih =>
  intro k hk
  simp only [pc]
  rw [ih k Qa, if_neg Qa, ih (k - 1) Qa, GF.zero_mul, GF.add_zero]
theorem qp_ (X : Nat → GF) (i : Nat) : pc X i 0 = 1 := by
 induction i with
 | zero => simp [pc]
 | succ i ih => simp only [pc]; rw [ih, if_pos trivial, GF.zero_mul, GF.add_zero]
theorem fc1_ (z : GF) (a : Nat) : GF.pw z (a + 1) = GF.pw z a * z := rfl
theorem sh1_ (X : Nat → GF) (z : GF) (i : Nat) : gsum (i + 1) (fun k => pc X i k * GF.pw z (i - k)) = prodX X z i := by
 induction i with
 | zero => simp only [gsum, pc, prodX]; rw [if_pos trivial]; exact (GF.zero_add _).trans (GF.mul_one _)
 | succ i ih =>
  have h1 : gsum (i + 2) (fun k => pc X (i + 1) k * GF.pw z (i + 1 - k)) = gsum (i + 2) (fun k => pc X i k * GF.pw z (i + 1 - k)) + gsum (i + 2) (fun k => (if k = 0 then 0 else pc X i (k - 1)) * X i * GF.pw z (i + 1 - k)) := by
   rw [← xj_]
   exact fd_ fun k hk => by simp only [pc]; rw [GF.add_mul]
  have h2 : gsum (i + 2) (fun k => pc X i k * GF.pw z (i + 1 - k)) = prodX X z i * z := by
   show gsum (i + 1) _ + pc X i (i + 1) * _ = _
   rw [pc_hi X i (i + 1) Qa, GF.zero_mul, GF.add_zero, ← ih, ← hl_]
   exact fd_ fun k hk => by rw [show i + 1 - k = (i - k) + 1 from by omega, fc1_, GF.mul_assoc]
  have h3 : gsum (i + 2) (fun k => (if k = 0 then 0 else pc X i (k - 1)) * X i * GF.pw z (i + 1 - k)) = prodX X z i * X i := by
   rw [il_ (i + 1), if_pos rfl, GF.zero_mul, GF.zero_mul, GF.zero_add, ← ih, ← hl_]
   refine fd_ fun k hk => ?_
   rw [if_neg Qa, Nat.add_sub_cancel, show i + 1 - (k + 1) = i - k from by omega]
   ac_rfl
  rw [h1, h2, h3]
  simp only [prodX]
  rw [GF.mul_add]
theorem kl_ (X : Nat → GF) (z : GF) (i : Nat) : prodX X z i = 0 ↔ ∃ t, t < i ∧ z = X t := by
 induction i with
 | zero => simp only [prodX]; exact ⟨fun h => absurd h GF.one_ne_zero, fun ⟨t, h, _⟩ => by omega⟩
 | succ i ih =>
  simp only [prodX]
  constructor
  ·intro h
   rcases GF.mul_eq_zero _ _ h with h | h
   ·obtain ⟨t, h1, h2⟩ := ih.1 h
    exact ⟨t, Qa, h2⟩
   ·exact ⟨i, Qa, GF.di_ h⟩
  rintro ⟨t, h1, h2⟩
  rcases Nat.lt_or_ge t i with h | h
  ·rw [ih.2 ⟨t, h, h2⟩, GF.zero_mul]
  rw [show t = i from by omega] at h2
  rw [h2, GF.bh_, GF.mul_zero]
theorem roots (m : Nat) (Z : Nat → GF) (hz : ∀ t, t < m → Z t ≠ 0) (hi : ∀ i j, i < m → j < m → Z i = Z j → i = j) (d : Nat → GF) (h : ∀ t, t < m → gsum m (fun k => d k * GF.pw (Z t) k) = 0) : ∀ k, k < m → d k = 0 := by
 intro k0 hk0
 obtain ⟨M, hM⟩ : ∃ M : Nat → Nat → Int, M = fun j t => if t < m then ofG (GF.pw (Z t) j) else ofG (if j = k0 then 1 else 0) := ⟨_, rfl⟩
 have hMt : ∀ j t, t < m → toG (M j t) = GF.pw (Z t) j := fun j t ht => by rw [hM]; simp only; rw [if_pos ht, ug_]
 have hMm : ∀ j, toG (M j m) = if j = k0 then 1 else 0 := fun j => by rw [hM]; simp only; rw [if_neg Qa, ug_]
 have he : ElM m (m + 1) M := fun i k _ _ => by rw [hM]; simp only; split <;> exact pg_ _
 have hI : Indep m m M := fun y hy => by
  refine vand m Z y 0 hz hi fun j hj => ?_
  rw [← hy j hj]
  exact fd_ fun t ht => by rw [hMt j t ht, Nat.zero_add]; exact GF.mul_comm _ _
 obtain ⟨M', _, _, _, _, hs⟩ := kp_ he hI
 have hy := (hs (fun i => toG (M' i m))).2 fun i hi => by rw [if_pos hi]
 obtain ⟨y, hyd⟩ : ∃ y : Nat → GF, y = fun i => toG (M' i m) := ⟨_, rfl⟩
 rw [← hyd] at hy
 have e1 : gsum m (fun t => y t * gsum m (fun k => d k * GF.pw (Z t) k)) = 0 := by
  rw [fd_ (g := fun _ => 0) (fun t ht => by rw [h t ht, GF.mul_zero]), fi_]
 have e2 : gsum m (fun t => y t * gsum m (fun k => d k * GF.pw (Z t) k)) = gsum m (fun k => d k * gsum m (fun t => toG (M k t) * y t)) := by
  rw [fd_ (g := fun t => gsum m (fun k => y t * (d k * GF.pw (Z t) k))) (fun t ht => (gh_ _ _ _).symm), gm_]
  refine fd_ fun k hk => ?_
  rw [← gh_]
  exact fd_ fun t ht => by rw [hMt k t ht]; ac_rfl
 rw [e2, yj_ m _ k0 hk0 (fun k hk hne => by rw [hy k hk, hMm k, if_neg hne, GF.mul_zero]), hy k0 hk0, hMm k0, if_pos rfl, GF.mul_one] at e1
 exact e1
end Go.Proofs.YtpkhgapifnjbeaaGreatDoor.G
end
section
namespace Go.Proofs.YtpkhgapifnjbeaaGreatDoor.G
open RowKit Zw.PrintWords Zw.PrintLast Zw.PrintMore Rs
open L
theorem km_ (n : Nat) (f : Nat → Int) : ((List.range n).map f).length = n := by simp
theorem pu_ (n j : Nat) (f g : Nat → Int) (x : Int) (hx : j < n → g j = x) (hg : ∀ i, i < n → i ≠ j → g i = f i) : ((List.range n).map f).set j x = (List.range n).map g := by
 apply List.ext_getElem
 ·simp
 intro i h1 h2
 rw [List.getElem_set]
 simp only [List.getElem_map, List.getElem_range]
 simp only [List.length_map, List.length_range] at h2
 by_cases e : j = i
 ·subst e; rw [if_pos rfl, hx h2]
 ·rw [if_neg e, hg i h2 (fun q => e q.symm)]
def sumI (n : Nat) (L : List Int) (i : Nat) : Nat → Int
 | 0 => 1
 | k + 1 => xorI (sumI n L i k) (mulI (L.getD k 0) (atI n (i : Int) (-(k : Int) - 1)))
def locP (l L : List Int) (i : Nat) : Bool := decide (l.getD i 0 ≠ -1) && decide (sumI l.length L i L.length = 0)
theorem ke1_ (P : Nat → Bool) (m : Nat) : (posN P m).length ≤ m := by
 induction m with
 | zero => exact Nat.le_refl _
 | succ m ih => simp only [posN, List.length_append]; split <;> simp <;> omega
theorem loc_l7 (l L : List Int) (n i : Nat) (hL : L.length ≤ 10) (hi : i < 100) (r : List Int × Bool) (K : Nat)
  (hc : ∀ k, K ≤ k → ga_.l6 k l (n : Int) L (posN (locP l L) (i + 1)) l (l.length : Int) ((i + 1 : Nat) : Int) = some r) :
  ∀ (d q k : Nat), q + d = L.length → K + d < k → ga_.l7 k l (n : Int) L (posN (locP l L) i) (i : Int) (l.getD i 0) (sumI l.length L i q) l (l.length : Int) (i : Int) L (L.length : Int) (q : Int) = some r := by
 have hs : wrap64 ((i : Int) + 1) = ((i + 1 : Nat) : Int) := by unfold wrap64; omega
 intro d
 induction d with
 | zero =>
  intro q k hq hk
  obtain ⟨k, rfl⟩ : ∃ m, k = m + 1 := ⟨k - 1, Qa⟩
  obtain rfl : q = L.length := by omega
  have hcc := hc k Qa
  simp only [posN] at hcc
  have hpl := ke1_ (locP l L) i
  simp only [ga_.l7]
  rw [if_neg Qa, hs]
  by_cases h1 : l.getD i 0 = -1
  ·rw [if_pos h1]
   rwa [if_neg (by unfold locP; simp only [Bool.and_eq_true, decide_eq_true_eq]; exact fun h => h.1 h1), List.append_nil] at hcc
  rw [if_neg h1]
  by_cases h2 : sumI l.length L i L.length = 0
  ·rw [if_pos h2, if_pos Qa]
   rwa [if_pos (by unfold locP; simp only [Bool.and_eq_true, decide_eq_true_eq]; exact ⟨h1, h2⟩)] at hcc
  rw [if_neg h2]
  rwa [if_neg (by unfold locP; simp only [Bool.and_eq_true, decide_eq_true_eq]; exact fun h => h2 h.2), List.append_nil] at hcc
 | succ d ih =>
  intro q k hq hk
  obtain ⟨k, rfl⟩ : ∃ m, k = m + 1 := ⟨k - 1, Qa⟩
  have hs2 : wrap64 ((q : Int) + 1) = ((q + 1 : Nat) : Int) := by unfold wrap64; omega
  have hs3 : wrap64 (wrap64 (-(q : Int)) - 1) = -(q : Int) - 1 := by unfold wrap64; omega
  simp only [ga_.l7]
  rw [if_pos Qa, if_pos Qa, if_pos Qa, ye_, hs2, hs3]
  simp only [g_at.f, ig_.f, fh_.f, Option.bind_some]
  exact ih (q + 1) k Qa Qa
theorem loc_l6 (l L : List Int) (n : Nat) (hL : L.length ≤ 10) (hl : l.length ≤ 15) : ∀ (d i k : Nat), i + d = l.length → d * 20 + 1 < k → ga_.l6 k l (n : Int) L (posN (locP l L) i) l (l.length : Int) (i : Int) = some (posN (locP l L) l.length, (((posN (locP l L) l.length).length : Int) == (n : Int))) := by
 intro d
 induction d with
 | zero =>
  intro i k hi hk
  obtain ⟨k, rfl⟩ : ∃ m, k = m + 1 := ⟨k - 1, Qa⟩
  obtain rfl : i = l.length := by omega
  simp only [ga_.l6]
  rw [if_neg Qa]
 | succ d ih =>
  intro i k hi hk
  obtain ⟨k, rfl⟩ : ∃ m, k = m + 1 := ⟨k - 1, Qa⟩
  simp only [ga_.l6]
  rw [if_pos Qa, if_pos Qa, if_pos Qa, ye_]
  exact loc_l7 l L n i hL Qa _ (d * 20 + 2) (fun k hk => ih (i + 1) k Qa Qa) L.length 0 k Qa Qa
def rowL (x : List Int) (n j : Nat) : List Int := (List.range n).map fun k => x.getD (j + n - 1 - k) 0
def matL (x : List Int) (n : Nat) : Nat → List (List Int)
 | 0 => []
 | j + 1 => matL x n j ++ [rowL x n j ++ [x.getD (j + n) 0]]
theorem wg_ (x : List Int) (n j : Nat) : (matL x n j).length = j := by
 induction j with
 | zero => rfl
 | succ j ih => simp [matL, ih]
theorem ms_ (x : List Int) (n : Nat) : ∀ (j i : Nat), i < j → (matL x n j).getD i [] = rowL x n i ++ [x.getD (i + n) 0] := by
 intro j
 induction j with
 | zero => intro i hi; omega
 | succ j ih =>
  intro i hi
  simp only [matL]
  rcases Nat.lt_or_ge i j with h | h
  ·rw [List.getD_eq_getElem?_getD, List.getElem?_append_left (by rw [wg_]; exact h), ← List.getD_eq_getElem?_getD, ih i h]
  obtain rfl : i = j := by omega
  rw [List.getD_eq_getElem?_getD, List.getElem?_append_right (by rw [wg_]; exact Nat.le_refl _), wg_]
  simp
theorem rb1_ (x : List Int) (n R i k : Nat) (hi : i < R) : rf_ (matL x n R) i k = if k < n then x.getD (i + n - 1 - k) 0 else if k = n then x.getD (i + n) 0 else 0 := by
 unfold rf_
 rw [ms_ x n R i hi]
 by_cases h1 : k < n
 ·rw [if_pos h1, List.getD_eq_getElem?_getD, List.getElem?_append_left (by simpa [rowL] using h1)]
  unfold rowL
  rw [List.getElem?_map, List.getElem?_range h1]; rfl
 rw [if_neg h1]
 by_cases h2 : k = n
 ·rw [if_pos h2, List.getD_eq_getElem?_getD, List.getElem?_append_right (by simp [rowL]; omega)]
  simp [rowL, h2]
 ·rw [if_neg h2, List.getD_eq_getElem?_getD, List.getElem?_eq_none (by simp [rowL]; omega)]; rfl
theorem fi1_ (x : List Int) (n R : Nat) (hR : 1 ≤ R) (hR2 : R ≤ 100) (hn : n ≤ 100) : xh_.f (matL x n R) = some (solR R n (rf_ (matL x n R))) := by
 have hrow : ∀ y ∈ matL x n R, y.length = n + 1 := by
  intro y hy
  obtain ⟨i, hi, rfl⟩ := List.mem_iff_getElem.1 hy
  have := ms_ x n R i (by rwa [wg_] at hi)
  rw [List.getD_eq_getElem?_getD, List.getElem?_eq_getElem hi] at this
  simp only [Option.getD_some] at this
  rw [this]; simp [rowL]
 have hh : ((matL x n R).headD []).length = n + 1 := by
  have h0 := ms_ x n R 0 Qa
  rw [List.headD_eq_head?_getD, List.head?_eq_getElem?, ← List.getD_eq_getElem?_getD, h0]
  simp [rowL]
 unfold xh_.f
 rw [hh, if_pos (by unfold pr_; rw [wg_]; simp only [Bool.and_eq_true, decide_eq_true_eq, List.all_eq_true]; exact ⟨Qa, hrow⟩), wg_, Nat.add_sub_cancel]
def au_ (l x : List Int) (n R : Nat) : List Int × Bool :=
 if (solR R n (rf_ (matL x n R))).2 = true then (posN (locP l (solR R n (rf_ (matL x n R))).1) l.length, (((posN (locP l (solR R n (rf_ (matL x n R))).1) l.length).length : Int) == (n : Int))) else ([], false)
theorem loc_l5 (l x : List Int) (n R j : Nat) (hx : x.length ≤ 6) (hn : n ≤ 6) (hj : j + n < x.length) (r : List Int × Bool) (K : Nat)
  (hc : ∀ k, K ≤ k → ga_.l4 k l (n : Int) x (matL x n (j + 1)) (R : Int) ((j + 1 : Nat) : Int) = some r) :
  ∀ (d q k : Nat), q + d = n → K + d < k → ga_.l5 k l (n : Int) x (matL x n j) (j : Int) ((List.range q).map fun k => x.getD (j + n - 1 - k) 0) ((q + 1 : Nat) : Int) (R : Int) (j : Int) = some r := by
 have hs : wrap64 ((j : Int) + 1) = ((j + 1 : Nat) : Int) := by unfold wrap64; omega
 have hs1 : wrap64 ((j : Int) + (n : Int)) = ((j + n : Nat) : Int) := by unfold wrap64; omega
 intro d
 induction d with
 | zero =>
  intro q k hq hk
  obtain ⟨k, rfl⟩ : ∃ m, k = m + 1 := ⟨k - 1, Qa⟩
  obtain rfl : q = n := by omega
  simp only [ga_.l5]
  rw [if_neg Qa, hs1, if_pos Qa, if_pos Qa, if_pos (by rw [km_]; omega), if_pos (by rw [wg_]; omega), hs, ye_]
  exact hc k Qa
 | succ d ih =>
  intro q k hq hk
  obtain ⟨k, rfl⟩ : ∃ m, k = m + 1 := ⟨k - 1, Qa⟩
  have hs2 : wrap64 (((q + 1 : Nat) : Int) + 1) = ((q + 1 + 1 : Nat) : Int) := by unfold wrap64; omega
  have hs3 : wrap64 (((j + n : Nat) : Int) - ((q + 1 : Nat) : Int)) = ((j + n - 1 - q : Nat) : Int) := by unfold wrap64; omega
  simp only [ga_.l5]
  rw [if_pos Qa, hs1, hs3, if_pos Qa, if_pos Qa, if_pos (by rw [km_]; omega), hs2, ye_]
  have := ih (q + 1) k Qa Qa
  rwa [List.range_succ, List.map_append] at this
theorem loc_l4 (l x : List Int) (n R : Nat) (hl : l.length ≤ 15) (hx : x.length ≤ 6) (hn : n ≤ 6) (hR : 1 ≤ R) (hRx : R + n = x.length) : ∀ (d j k : Nat), j + d = R → 400 + d * 20 < k → ga_.l4 k l (n : Int) x (matL x n j) (R : Int) (j : Int) = some (au_ l x n R) := by
 intro d
 induction d with
 | zero =>
  intro j k hj hk
  obtain ⟨k, rfl⟩ : ∃ m, k = m + 1 := ⟨k - 1, Qa⟩
  obtain rfl : j = R := by omega
  simp only [ga_.l4]
  rw [if_neg Qa, fi1_ x n j hR Qa Qa]
  simp only [Option.bind_some]
  unfold au_
  by_cases h2 : (solR j n (rf_ (matL x n j))).2 = true
  ·rw [if_pos h2, if_pos h2]
   exact loc_l6 l _ n (by rw [ws_ h2]; omega) hl l.length 0 k Qa Qa
  ·rw [if_neg h2, if_neg h2]
 | succ d ih =>
  intro j k hj hk
  obtain ⟨k, rfl⟩ : ∃ m, k = m + 1 := ⟨k - 1, Qa⟩
  simp only [ga_.l4]
  rw [if_pos Qa]
  exact loc_l5 l x n R j hx hn Qa _ (400 + d * 20 + 1) (fun k hk => ih (j + 1) k Qa Qa) n 0 k Qa Qa
end Go.Proofs.YtpkhgapifnjbeaaGreatDoor.G
end
