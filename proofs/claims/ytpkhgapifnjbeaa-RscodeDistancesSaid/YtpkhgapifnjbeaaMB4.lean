/- A part of the proofs of this seat's statements (texts put together by pack2.py of this claim's repo). -/
import Derived.Laws.CopyOwn
import Derived.Outline
import Derived.Deep.LoopGhost
import Derived.Deep.DeepCutAuto
import Derived.Deep.CutBlock
import Derived.LoopTactic
import Derived.Test.YtpkhgapifnjbeaaProg
import Derived.Below
import Derived.Deep.Draws
import Derived.Deep.AppendLies
import Derived.Maps.AppendAt
import Derived.OwnWalk
import Derived.Laws.BytesArg
import Derived.Laws.MakeOwn
import Derived.Laws.OwnMore
import Derived.Deep.OwnRows
import Derived.Tactics
import Derived.Lib.ConvBytes
import Derived.Laws.Slices
import Derived.WalkKit
import Derived.KernelRfl
import Derived.RowKit3
import Derived.Deep.QuietTactic
import Derived.BigQuiet
import Derived.WideLaws
import Derived.Deep.RegionHeld3
import Derived.Laws.Rows
import Derived.Lib.AppendStr
import Derived.ArgAppend
import Derived.Laws.IdiomCopy
import Derived.OrdersHeld
import Derived.Laws.BitsLemmas
import Derived.RowKit
import Derived.Test.YtpkhgapifnjbeaaMB3
section
namespace Go.Proofs.Ytpkhgapifnjbeaa.K
open Go.RowKit Go.Proofs.Ytpkhgapifnjbeaa.G Go.Proofs.YtpkhgapifnjbeaaW.PrintWords Go.Proofs.YtpkhgapifnjbeaaW.PrintLast Go.Proofs.YtpkhgapifnjbeaaW.PrintMore
attribute [local go_sem] dd_ fd_ rd_ sd_ uc_ vc_ ed_ gd_
set_option linter.unusedVariables false
set_option linter.unusedSimpArgs false
def if_.f (a0 : Int) (a1 : Int) : Option (Int × Int) := some (((IntKind.u64.wrap ((IntKind.u64.wrap (a0)) * (IntKind.u64.wrap (a1)))) / 4294967296) % 4294967296, (IntKind.u64.wrap ((IntKind.u64.wrap (a0)) * (IntKind.u64.wrap (a1)))) % 4294967296)
set_option maxHeartbeats 8000000 in
set_option maxRecDepth 100000 in
theorem if_.calls (a0 : Int) (a1 : Int) (r1 : Int) (r2 : Int) (w : World) (h : if_.f a0 a1 = some (r1, r2)) :
  Calls Try.prog 67 #[.int .u32 a0, .int .u32 a1] w fun e w' => e = .returned (.tuple #[.int .u32 r1, .int .u32 r2]) ∧ ra_ w w' := by
 have H : (some (((IntKind.u64.wrap ((IntKind.u64.wrap (a0)) * (IntKind.u64.wrap (a1)))) / 4294967296) % 4294967296, (IntKind.u64.wrap ((IntKind.u64.wrap (a0)) * (IntKind.u64.wrap (a1)))) % 4294967296)) = some (r1, r2) := h
 clear h
 simp only [Option.some.injEq, Prod.mk.injEq] at H
 obtain ⟨rfl, rfl⟩ := H
 go_enter Try.func67, Try.ntmps67
 go_wp2
 go_ret2
 exact ⟨by first | rfl | (simp; done) | (simp [*]; done), by repeat (first | exact ra_.refl _ | apply ra_.step)⟩
def be_.f (a0 : Int) (a1 : Int) : Option (Int × Int) := some (IntKind.u64.wrap ((IntKind.u64.wrap ((IntKind.u64.wrap ((a0 / 4294967296) * (a1 / 4294967296))) + ((IntKind.u64.wrap ((IntKind.u64.wrap ((a0 / 4294967296) * (Go.bits .and .u64 a1 4294967295))) + ((IntKind.u64.wrap ((Go.bits .and .u64 a0 4294967295) * (Go.bits .and .u64 a1 4294967295))) / 4294967296))) / 4294967296))) + ((IntKind.u64.wrap ((Go.bits .and .u64 (IntKind.u64.wrap ((IntKind.u64.wrap ((a0 / 4294967296) * (Go.bits .and .u64 a1 4294967295))) + ((IntKind.u64.wrap ((Go.bits .and .u64 a0 4294967295) * (Go.bits .and .u64 a1 4294967295))) / 4294967296))) 4294967295) + (IntKind.u64.wrap ((Go.bits .and .u64 a0 4294967295) * (a1 / 4294967296))))) / 4294967296)), IntKind.u64.wrap (a0 * a1))
set_option maxHeartbeats 8000000 in
set_option maxRecDepth 100000 in
theorem be_.calls (a0 : Int) (a1 : Int) (r1 : Int) (r2 : Int) (w : World) (h : be_.f a0 a1 = some (r1, r2)) :
  Calls Try.prog 68 #[.int .u64 a0, .int .u64 a1] w fun e w' => e = .returned (.tuple #[.int .u64 r1, .int .u64 r2]) ∧ ra_ w w' := by
 have H : (some (IntKind.u64.wrap ((IntKind.u64.wrap ((IntKind.u64.wrap ((a0 / 4294967296) * (a1 / 4294967296))) + ((IntKind.u64.wrap ((IntKind.u64.wrap ((a0 / 4294967296) * (Go.bits .and .u64 a1 4294967295))) + ((IntKind.u64.wrap ((Go.bits .and .u64 a0 4294967295) * (Go.bits .and .u64 a1 4294967295))) / 4294967296))) / 4294967296))) + ((IntKind.u64.wrap ((Go.bits .and .u64 (IntKind.u64.wrap ((IntKind.u64.wrap ((a0 / 4294967296) * (Go.bits .and .u64 a1 4294967295))) + ((IntKind.u64.wrap ((Go.bits .and .u64 a0 4294967295) * (Go.bits .and .u64 a1 4294967295))) / 4294967296))) 4294967295) + (IntKind.u64.wrap ((Go.bits .and .u64 a0 4294967295) * (a1 / 4294967296))))) / 4294967296)), IntKind.u64.wrap (a0 * a1))) = some (r1, r2) := h
 clear h
 simp only [Option.some.injEq, Prod.mk.injEq] at H
 obtain ⟨rfl, rfl⟩ := H
 go_enter Try.func68, Try.ntmps68
 go_wp2
 go_ret2
 exact ⟨by first | rfl | (simp; done) | (simp [*]; done), by repeat (first | exact ra_.refl _ | apply ra_.step)⟩
def zf_.f (a0 : Int) (a1 : Int) : Option (Int × Int) := (be_.f a0 a1).bind fun bt102 => (some (bt102.1, bt102.2))
set_option maxHeartbeats 8000000 in
set_option maxRecDepth 100000 in
theorem zf_.calls (a0 : Int) (a1 : Int) (r1 : Int) (r2 : Int) (w : World) (h : zf_.f a0 a1 = some (r1, r2)) :
  Calls Try.prog 58 #[.int .u64 a0, .int .u64 a1] w fun e w' => e = .returned (.tuple #[.int .u64 r1, .int .u64 r2]) ∧ ra_ w w' := by
 have H : ((be_.f a0 a1).bind fun bt102 => (some (bt102.1, bt102.2))) = some (r1, r2) := h
 clear h
 replace H := Option.bind_eq_some_iff.mp H
 obtain ⟨⟨t102, t103⟩, A30, H⟩ := H
 replace H : (some (t102, t103)) = some (r1, r2) := H
 have A3 := ba_.mk A30
 clear A30
 simp only [Option.some.injEq, Prod.mk.injEq] at H
 obtain ⟨rfl, rfl⟩ := H
 go_enter Try.func58, Try.ntmps58
 go_wp2_with (first | ((with_reducible refine ua_ (f := 68) rfl ?_); refine hc_ (some 25) rfl rfl Try.func68 (by kernel_rfl) rfl #[.int .u64 a0, .int .u64 a1] rfl (by (try simp only [List.map_toArray, List.map_cons, List.map_nil]); first | done | rfl | (simp only [List.length_drop, List.length_take]; rfl)) ?_; (with_reducible refine (be_.calls a0 a1 t102 t103 _ A3.out).mono ?_); rintro e w' ⟨rfl, ⟨nd, rfl⟩⟩; refine ⟨_, rfl, ?_⟩))
 go_ret2
 exact ⟨by first | rfl | (simp; done) | (simp [*]; done), by repeat (first | exact ra_.refl _ | apply ra_.step)⟩
def bd_.f (a0 : Int) : Option (Int) := if (wrap64 (a0 * 2)) ≥ 32 then (some (Go.bits .xor .i64 (wrap64 (a0 * 2)) 37)) else (some (wrap64 (a0 * 2)))
set_option maxHeartbeats 8000000 in
set_option maxRecDepth 100000 in
theorem bd_.calls (a0 : Int) (r : Int) (w : World) (h : bd_.f a0 = some r) :
  Calls Try.prog 41 #[.int .i64 a0] w fun e w' => e = .returned (.int .i64 r) ∧ ra_ w w' := by
 have H : (if (wrap64 (a0 * 2)) ≥ 32 then (some (Go.bits .xor .i64 (wrap64 (a0 * 2)) 37)) else (some (wrap64 (a0 * 2)))) = some r := h
 clear h
 by_cases c2 : (wrap64 (a0 * 2)) ≥ 32
 ·rw [if_pos c2] at H
  have c2b0 : decide (32 ≤ (wrap64 (a0 * 2))) = true := decide_eq_true c2
  clear c2
  obtain rfl := Option.some.inj H
  go_enter Try.func41, Try.ntmps41
  go_wp2
  go_ret
  exact ⟨by first | rfl | (simp; done) | (simp [*]; done), by repeat (first | exact ra_.refl _ | apply ra_.step)⟩
 ·rw [if_neg c2] at H
  have c2b0 : decide (32 ≤ (wrap64 (a0 * 2))) = false := decide_eq_false c2
  clear c2
  obtain rfl := Option.some.inj H
  go_enter Try.func41, Try.ntmps41
  go_wp2
  go_ret
  exact ⟨by first | rfl | (simp; done) | (simp [*]; done), by repeat (first | exact ra_.refl _ | apply ra_.step)⟩
end Go.Proofs.Ytpkhgapifnjbeaa.K
end
section
namespace Go.Proofs.Ytpkhgapifnjbeaa.K
open Go.RowKit Go.Proofs.Ytpkhgapifnjbeaa.G Go.Proofs.YtpkhgapifnjbeaaW.PrintWords Go.Proofs.YtpkhgapifnjbeaaW.PrintLast Go.Proofs.YtpkhgapifnjbeaaW.PrintMore
attribute [local go_sem] dd_ fd_ rd_ sd_ uc_ vc_ ed_ gd_
set_option linter.unusedVariables false
set_option linter.unusedSimpArgs false
end Go.Proofs.Ytpkhgapifnjbeaa.K
end
section
namespace Go.Proofs.Ytpkhgapifnjbeaa.G
set_option linter.unusedVariables false
set_option linter.unusedSimpArgs false
open Go.RowKit Go.Proofs.YtpkhgapifnjbeaaW.PrintWords Go.Proofs.YtpkhgapifnjbeaaW.PrintLast Go.Proofs.YtpkhgapifnjbeaaW.PrintMore Go.Proofs.Ytpkhgapifnjbeaa.Rs
theorem M_int0 (W : World) (base : Nat) : (Kd.int .i64).M W base (fun _ => False) (0 : Int) (Value.cells (.int .i64 0)).toList := rfl
set_option maxHeartbeats 4000000 in
set_option maxRecDepth 100000 in
theorem az_ (n : Nat) (h1 : 1 ≤ n) (hn : n ≤ 1000) (w : World) :
  Calls Try.prog 57 #[.slice none 0 0, .int .i64 n] w fun e w' => ∃ v : Value, e = .returned v ∧ Kd.R (Kd.int .i64) 3 w' w.heap.size (fun _ => True) v [] ∧ Below w.heap.size w w' := by
 have hw : wrap64 ((n : Int) - wrap64 ((0 : Int) - 0)) = (n : Int) := by unfold wrap64; omega
 have hw0 : wrap64 ((0 : Int) - 0) = (0 : Int) := by unfold wrap64; omega
 have hw1 : wrap64 ((n : Int) - 0) = (n : Int) := by unfold wrap64; omega
 have hk := Lib.hid hn
 go_enter Try.func57, Try.ntmps57
 go_wp2_with (first | ((with_reducible refine yd_ (N := 22) rfl ?_); refine Kd.jq_ (Kd.int .i64) w.heap.size rfl _ _ 27 3 3 (.int .i64 0) 8 rfl Try.underlying27 (k := .i64) Try.underlying3 (by kernel_rfl) rfl (by decide) (by decide) (.slice none 0 0) [] (0 : Int) (n : Int) (fun _ => True) rfl rfl (M_int0 _ _) (fun _ _ => trivial) (Kd.uf_ _ _ _ _ _) (by omega) (Below.refl _ _) (Nat.le_refl _) (by have := hk.out; simp only [List.length_nil, Int.toNat_natCast]; omega) ?_; intro v1 w1 ho hb hg hat; clear hg hat; rw [Int.toNat_natCast] at ho; obtain ⟨go, co, eo, hgo, hgl, _⟩ := Kd.yg_ ho (by simp only [List.nil_append, List.length_replicate]; omega); subst eo; have HO := Lib.hid ho; have HB := Lib.hid hb; clear ho hb))
 go_ret
 exact ⟨_, rfl, Kd.by_ HO.out (Nat.zero_le _), HB.out⟩
set_option maxHeartbeats 4000000 in
set_option maxRecDepth 100000 in
theorem yw_ (w : World) : Calls Try.prog 57 #[.slice none 0 0, .int .i64 (0 : Nat)] w fun e w' => e = .returned (.slice none 0 0) ∧ w = w' := by
 have hw : wrap64 ((0 : Int) - wrap64 ((0 : Int) - 0)) = (0 : Int) := by unfold wrap64; omega
 have hw0 : wrap64 ((0 : Int) - 0) = (0 : Int) := by unfold wrap64; omega
 go_enter Try.func57, Try.ntmps57
 go_wp2
 go_ret
 exact ⟨rfl, rfl⟩
theorem cb1_ (n : Nat) (hn : n ≤ 1000) (w : World) :
  Calls Try.prog 57 #[.slice none 0 0, .int .i64 n] w fun e w' => ∃ v : Value, e = .returned v ∧ Kd.R (Kd.int .i64) 3 w' w.heap.size (fun _ => True) v [] ∧ Below w.heap.size w w' := by
 by_cases h1 : 1 ≤ n
 ·exact az_ n h1 hn w
 ·obtain rfl : n = 0 := by omega
  exact (yw_ w).mono fun e w' ⟨he, hw⟩ => ⟨_, he, Kd.uf_ _ _ _ _ _, hw ▸ Below.refl _ _⟩
def pq_ (a b i : Nat) : Nat := if i = 0 then 0 else if i = 1 then a else a + b
def cq_ (l0 l1 : List Int) (i : Nat) : List Int := if i = 0 then [] else if i = 1 then l0 else l0 ++ l1
set_option maxHeartbeats 4000000 in
set_option maxRecDepth 100000 in
theorem hu_ (b cb : Nat) (A0 : Option Addr) (c0 : Nat) (l0 : List Int) (A1 : Option Addr) (c1 : Nat) (l1 : List Int) (w : World) (hb0 : w.cell? ⟨b, 0, none⟩ = some (.slice A0 l0.length c0)) (hb1 : w.cell? ⟨b, 1, none⟩ = some (.slice A1 l1.length c1))
  (hr0 : Kd.C (Kd.int .i64) w A0 l0.length l0) (hc0 : l0.length ≤ c0) (hr1 : Kd.C (Kd.int .i64) w A1 l1.length l1) (hc1 : l1.length ≤ c1) (hl0 : l0.length ≤ 500) (hl1 : l1.length ≤ 500) :
  Calls Try.prog 43 #[.slice (some ⟨b, 0, none⟩) 2 cb] w fun e w' => ∃ v : Value, e = .returned v ∧ Kd.R (Kd.int .i64) 3 w' w.heap.size (fun _ => True) v (l0 ++ l1) ∧ Below w.heap.size w w' := by
 have HR0 := Lib.hid hr0
 have HR1 := Lib.hid hr1
 have HC0 := Lib.hid hc0
 have HC1 := Lib.hid hc1
 clear hr0 hr1 hc0 hc1
 go_enter Try.func43, Try.ntmps43
 go_wp2
 go_loop [3, 11] (fun v3 v11 => ∃ i : Nat, i ≤ 2 ∧ v11 = .int .i64 i ∧ v3 = .int .i64 (pq_ l0.length l1.length i : Nat)) (fun _ v => 2 - (intOf v).toNat)
 case atStart => exact ⟨0, by omega, rfl, rfl⟩
 case round =>
  obtain ⟨i, hi, rfl, rfl⟩ := hrel
  by_cases hi2 : i < 2
  ·obtain ⟨A, n, c, hcell, hlen, hup⟩ : ∃ (A : Option Addr) (n c : Nat), w.cell? ⟨b, i, none⟩ = some (.slice A n c) ∧ n ≤ 500 ∧ pq_ l0.length l1.length (i + 1) = pq_ l0.length l1.length i + n ∧ pq_ l0.length l1.length i ≤ 500 := by
    rcases (show i = 0 ∨ i = 1 from by omega) with rfl | rfl
    ·exact ⟨A0, l0.length, c0, hb0, hl0, by simp [pq_], by simp [pq_]⟩
    ·exact ⟨A1, l1.length, c1, hb1, hl1, by simp [pq_], by simp [pq_]; omega⟩
   generalize pq_ l0.length l1.length i = s at hup ⊢
   have hw : wrap64 ((s : Int) + (n : Int)) = ((s + n : Nat) : Int) := by unfold wrap64; omega
   have hU := Lib.hid hup.1
   clear hup
   go_wp2
   go_round
   case rel => exact ⟨i + 1, by omega, by go_num, by rw [hU.out]; first | rfl | (rw [← hw]; done) | (simp [hw]; done) | (push_cast; rfl) | trace_state⟩
   case measure => simp [intOf]; omega
  ·obtain rfl : i = 2 := by omega
   have hup : pq_ l0.length l1.length 2 = l0.length + l1.length := rfl
   rw [hup]
   obtain ⟨N, hN⟩ : ∃ N, N = l0.length + l1.length := ⟨_, rfl⟩
   rw [← hN]
   have hk := Lib.hid (show N ≤ 1000 from by omega)
   have hNN := Lib.hid hN
   clear hN hup
   go_wp2_with (first | ((with_reducible refine ua_ (f := 57) rfl ?_); refine hc_ (some 24) rfl rfl Try.func57 (by kernel_rfl) rfl #[.slice none 0 0, .int .i64 N] rfl (by (try simp only [List.map_toArray, List.map_cons, List.map_nil]); first | done | rfl) ?_; (with_reducible refine (cb1_ N hk.out _).mono ?_); rintro e w1 ⟨v1, rfl, ho, hb⟩; refine ⟨_, rfl, ?_⟩; have HO := Lib.hid ho; have HB := Lib.hid hb; clear ho hb))
   go_loopw [6, 27] (fun v6 v27 wr => ∃ i : Nat, i ≤ 2 ∧ v27 = .int .i64 i ∧ Hid (Kd.R (Kd.int .i64) 3 wr w.heap.size (fun _ => True) v6 (cq_ l0 l1 i)) ∧ Hid (Below w.heap.size w wr)) (fun _ v _ => 2 - (intOf v).toNat)
   case atStart => exact ⟨0, by omega, rfl, HO, HB⟩
   case round =>
    clear HO HB
    obtain ⟨i, hi, rfl, HO, HB⟩ := hrel
    by_cases hi2 : i < 2
    ·obtain ⟨A, l, c, hcell, hread, hup, hlen⟩ : ∃ (A : Option Addr) (l : List Int) (c : Nat), wr.cell? ⟨b, i, none⟩ = some (.slice A l.length c) ∧ Hid (Kd.C (Kd.int .i64) wr A l.length l) ∧ Hid (cq_ l0 l1 (i + 1) = cq_ l0 l1 i ++ l) ∧ Hid ((cq_ l0 l1 i).length + l.length ≤ 1000) := by
      have hlt0 := World.block_lt_of_cell? w _ hb0
      have hlt1 := World.block_lt_of_cell? w _ hb1
      rcases (show i = 0 ∨ i = 1 from by omega) with rfl | rfl
      ·exact ⟨A0, l0, c0, (HB.out.cell hlt0).trans hb0, Lib.hid (Kd.ie_ HR0.out HB.out), Lib.hid (by simp [cq_]), Lib.hid (by simp [cq_]; omega)⟩
      ·exact ⟨A1, l1, c1, (HB.out.cell hlt1).trans hb1, Lib.hid (Kd.ie_ HR1.out HB.out), Lib.hid (by simp [cq_]), Lib.hid (by simp [cq_]; omega)⟩
     obtain ⟨Ao, co, eo⟩ := Kd.fc_ HO.out
     subst eo
     go_wp2_with (first | ((with_reducible refine hd_ (b := .append) (xs := #[.tmp 31, .tmp 32]) rfl ?_); at_builtin; refine Kd.af_ (Kd.int .i64) (w0 := w) w.heap.size rfl (.tmp 31) (.tmp 32) 27 3 (.int .i64 0) 8 rfl Try.underlying27 (by kernel_rfl) rfl (by decide) (by omega) (.slice Ao (cq_ l0 l1 i).length co) (cq_ l0 l1 i) l A l.length c (fun _ => True) (fun _ => False) rfl rfl HO.out hread.out (fun _ _ h => h) (fun _ h => h.elim) (fun _ _ => trivial) HB.out (eb_ HB.out) (by have := hlen.out; omega) ?_; intro v2 w2 ho hb hg hat; clear hg hat; have HO1 := Lib.hid (show Kd.R (Kd.int .i64) 3 w2 w.heap.size (fun _ => True) v2 (cq_ l0 l1 (i + 1)) from by rw [hup.out]; exact ho); have HB1 := Lib.hid hb; clear ho hb))
     go_roundw
     case rel => exact ⟨i + 1, by omega, by go_num, HO1, HB1⟩
     case measure => simp [intOf]; omega
    ·obtain rfl : i = 2 := by omega
     go_wp2
     go_ret
     exact ⟨_, rfl, HO.out, HB.out⟩
def repL (x : Int) (k : Nat) : List Value := List.replicate k (.int .i64 x) ++ List.replicate (6 - k) (.int .i64 0)
theorem dv_ (x : Int) (m : Nat) : ∀ v ∈ List.replicate m (Value.int .i64 x), v.oneCell' = true := by
 intro v hv
 rw [(List.mem_replicate.1 hv).2]; rfl
theorem un_ {cur : List Value} {x : Int} {k cap : Nat} (h : cur.take 6 = repL x k ∧ cur.length = cap) (hk : k ≤ 6 := by decide) : 6 ≤ cur.length := by
 have := congrArg List.length h.1
 simp only [repL, List.length_take, List.length_append, List.length_replicate] at this
 omega
theorem fv_ {w : World} {g t k cap : Nat} {cur : List Value} {x : Int} (hg : w.heap[g]? = some (.cells cur.toArray t (0, 0))) (h : cur.take 6 = repL x k ∧ cur.length = cap) (m : Nat) (hm : m ≤ k ∧ k ≤ 6) : ∀ j v, (List.replicate m (Value.int .i64 x))[j]? = some v → w.cell? ((⟨g, 0, none⟩ : Addr).add j) = some v := by
 intro j v hv
 have hj : j < m := by
  rcases Nat.lt_or_ge j m with h | h
  ·exact h
  ·rw [List.getElem?_eq_none (by simpa using h)] at hv; cases hv
 have h1 : (cur.take 6)[j]? = some (.int .i64 x) := by
  rw [h.1, repL, List.getElem?_append_left (by simp; omega)]
  simp [List.getElem?_replicate]; omega
 rw [List.getElem?_take, if_pos (by omega)] at h1
 have h2 : v = .int .i64 x := by
  rw [List.getElem?_replicate, if_pos hj] at hv; exact (Option.some.inj hv).symm
 have h3 := cell_of_row w g j cur.toArray t (0, 0) hg
 rw [show ((⟨g, 0, none⟩ : Addr).add j) = ⟨g, j, none⟩ from by simp [Addr.add] <;> omega, h3, h2]
 simpa using h1
theorem vn_ {cur L : List Value} (h : cur.take 6 = L) : cur = L ++ cur.drop 6 := by rw [← h, List.take_append_drop]
theorem aa1_ {cur : List Value} {x : Int} (h : cur.take 6 = repL x 1) : (splice cur 1 (List.replicate 1 (.int .i64 x))).take 6 = repL x 2 := by
 rw [vn_ h]; rfl
theorem ba1_ {cur : List Value} {x : Int} (h : cur.take 6 = repL x 2) : (splice cur 2 (List.replicate 2 (.int .i64 x))).take 6 = repL x 4 := by
 rw [vn_ h]; rfl
theorem ca1_ {cur : List Value} {x : Int} (h : cur.take 6 = repL x 4) : (splice cur 4 (List.replicate 2 (.int .i64 x))).take 6 = repL x 6 := by
 rw [vn_ h]; rfl
theorem rx_ {w : World} {base g t cap : Nat} {cur : List Value} {x : Int} (hg : w.heap[g]? = some (.cells cur.toArray t (0, 0))) (h : cur.take 6 = repL x 6 ∧ cur.length = cap) (hcap : 6 ≤ cap) (hmax : cap ≤ maxLen) (hb : base ≤ g) :
  Kd.R (Kd.int .i64) t w base (fun _ => True) (.slice (some ⟨g, 0, none⟩) 6 cap) (List.replicate 6 x) := by
 refine Kd.no_ ?_ (fun _ _ => trivial)
 refine ⟨by simp [encs], .inr ⟨g, cap, cur.toArray, by simp, hb, hg, ?_, ?_, ?_, ?_⟩⟩
 all_goals first | omega | exact hmax | (simp; omega; done) | (simp; omega) | exact h.1 | (rw [h.1]; rfl) | skip
set_option maxHeartbeats 4000000 in
set_option maxRecDepth 100000 in
theorem gv_ (A0 : Option Addr) (c : Nat) (x : Int) (w : World) (hr : Kd.C (Kd.int .i64) w A0 1 [x]) (hc : 1 ≤ c) :
  Calls Try.prog 44 #[.slice A0 1 c, .int .i64 6] w fun e w' => ∃ v : Value, e = .returned v ∧ Kd.R (Kd.int .i64) 3 w' w.heap.size (fun _ => True) v (List.replicate 6 x) ∧ Below w.heap.size w w' := by
 have HR := Lib.hid hr
 clear hr
 have hm := @Go.Proofs.Ytpkhgapifnjbeaa.K.zf_.calls 1 6 0 6
 have HM := Lib.hid hm
 clear hm
 go_enter Try.func44, Try.ntmps44
 go_wp2_with (first | ((with_reducible refine ua_ (f := 58) rfl ?_); refine hc_ (some 18) rfl rfl Try.func58 (by kernel_rfl) rfl #[.int .u64 1, .int .u64 6] rfl (by (try simp only [List.map_toArray, List.map_cons, List.map_nil]); first | done | rfl) ?_; (with_reducible refine (HM.out _ (by decide +kernel)).mono ?_); rintro e w' ⟨rfl, ⟨nd, rfl⟩⟩; refine ⟨_, rfl, ?_⟩) | ((with_reducible refine yd_ (N := 30) rfl ?_); refine Kd.uq_ (Kd.int .i64) w.heap.size 3 rfl (N := 30) rfl 27 _ _ rfl (6 : Int) rfl rfl Try.underlying27 (.int .i64 0) 8 (by kernel_rfl) rfl (by decide) (by omega) 0 (ok := fun _ => True) (okp := fun _ => True) rfl (fun _ hk => hk) trivial (by omega) (by omega) (ca_ (Below.refl _ _) nd) (Nat.le_refl _) ?_; intro v1 w1 ho hb hg_ hnew_; clear hg_ hnew_; have HO := Lib.hid ho; have HB := Lib.hid hb; clear ho hb) | ((with_reducible refine yd_ (N := 33) rfl ?_); refine Kd.gc1_ (0 : Int) w.heap.size rfl _ _ 27 27 3 rfl Try.underlying27 (by kernel_rfl) v1 _ [x] A0 1 c (fun _ => True) rfl rfl HO.out (Kd.ie_ HR.out HB.out) HB.out (eb_ HB.out) ?_; intro w2 ho hb hg_; clear hg_; clear HB HO; have HB := Lib.hid hb; have HO := Lib.hid ho; clear ho hb))
 have ho := HO.out
 rw [show (Int.toNat 6) = 6 from rfl] at ho
 replace ho : Kd.R (Kd.int .i64) 3 w2 w.heap.size (fun _ => True) v1 [x, 0, 0, 0, 0, 0] := ho
 have hown := Kd.ym_ ho
 rcases hown.2 with ⟨_, hx0⟩ | ⟨g, cap, cur, hv, hgb, hg, hnc, hcm, hcs, htake⟩
 ·simp at hx0
 subst hv
 have HGb := Lib.hid hgb
 have HX := Lib.hid hcm
 have hcap0 : 6 ≤ cap := hnc
 have HC := Lib.hid (show ∃ cur : List Value, Hid (w2.heap[g]? = some (.cells cur.toArray 3 (0, 0))) ∧ Hid (cur.take 6 = repL x 1 ∧ cur.length = cap) from ⟨cur.toList, Lib.hid (by simpa using hg), Lib.hid ⟨by first | exact htake | (rw [htake]; rfl), by first | omega | (simp; omega)⟩⟩)
 clear ho HO hown hgb hg hnc hcm hcs htake
 go_loopw [8] (fun v wr => ∃ k : Nat, (k = 1 ∨ k = 2 ∨ k = 4 ∨ k = 6) ∧ v = .int .i64 k ∧ Hid (∃ cur : List Value, Hid (wr.heap[g]? = some (.cells cur.toArray 3 (0, 0))) ∧ Hid (cur.take 6 = repL x k ∧ cur.length = cap)) ∧ Hid (Below w.heap.size w wr)) (fun v _ => 6 - (intOf v).toNat)
 case atStart => exact ⟨1, by decide, rfl, HC, HB⟩
 case round =>
  clear HC HB
  obtain ⟨k, hk, rfl, HC, HB⟩ := hrel
  obtain ⟨w3, rfl⟩ : ∃ x : World, x = wr := ⟨_, rfl⟩
  rcases hk with rfl | rfl | rfl | rfl
  ·obtain ⟨cur, HG, HL⟩ := HC.out
   have hcap1 := eq_true (show (1 : Int) ≤ (cap : Int) from by omega)
   have hcap2 := eq_false (show ¬ cap = 1 from by omega)
   go_wp2
   refine mi_ (n := 10) (S := fun w' => True) (ds := []) #[false, false, false, false, false, false, false, false, false, false] (by kernel_rfl) rfl rfl (trivial) (fun hHeld => ?_)
   have HD := Lib.hid (ga_ HB.out)
   refine id_ (i := 0) (N := some 38) (v := ?_) (a' := ?_) #[true, false, false, false, false, false, false, false, false, false] rfl rfl (by kernel_rfl) (fun _ _ _ h => h) (Or.inl ⟨by rfl, ?_⟩) ?_ ?_
   rotate_left
   ·intro w'
    go_simp
    with_reducible rfl
   rotate_left
   ·simp only [Act.put, List.setIfInBounds_toArray, List.set_cons_zero, List.set_cons_succ, gc_, lc_]
    rfl
   refine id_ (i := 1) (N := some 39) (v := ?_) (a' := ?_) #[true, true, false, false, false, false, false, false, false, false] rfl rfl (by kernel_rfl) (fun _ _ _ h => h) (Or.inl ⟨by rfl, ?_⟩) ?_ ?_
   rotate_left
   ·intro w'
    go_simp
    with_reducible rfl
   rotate_left
   ·simp only [Act.put, List.setIfInBounds_toArray, List.set_cons_zero, List.set_cons_succ, gc_, lc_]
    rfl
   refine id_ (i := 2) (N := some 40) (v := ?_) (a' := ?_) #[true, true, true, false, false, false, false, false, false, false] rfl rfl (by kernel_rfl) (fun _ _ _ h => h) (Or.inl ⟨by rfl, ?_⟩) ?_ ?_
   rotate_left
   ·intro w'
    go_simp
    with_reducible rfl
   rotate_left
   ·simp only [Act.put, List.setIfInBounds_toArray, List.set_cons_zero, List.set_cons_succ, gc_, lc_]
    rfl
   refine id_ (i := 3) (N := some 41) (v := ?_) (a' := ?_) #[true, true, true, true, false, false, false, false, false, false] rfl rfl (by kernel_rfl) (fun _ _ _ h => h) (Or.inl ⟨by rfl, ?_⟩) ?_ ?_
   rotate_left
   ·intro w'
    go_simp
    with_reducible rfl
   rotate_left
   ·simp only [Act.put, List.setIfInBounds_toArray, List.set_cons_zero, List.set_cons_succ, gc_, lc_]
    rfl
   refine id_ (i := 4) (N := some 42) (v := ?_) (a' := ?_) #[true, true, true, true, true, false, false, false, false, false] rfl rfl (by kernel_rfl) (fun _ _ _ h => h) (Or.inl ⟨by rfl, ?_⟩) ?_ ?_
   rotate_left
   ·intro w'
    go_simp
    with_reducible rfl
   rotate_left
   ·simp only [Act.put, List.setIfInBounds_toArray, List.set_cons_zero, List.set_cons_succ, gc_, lc_]
    rfl
   refine id_ (i := 5) (N := some 43) (v := ?_) (a' := ?_) #[true, true, true, true, true, true, false, false, false, false] rfl rfl (by kernel_rfl) (fun _ _ _ h => h) (Or.inl ⟨by rfl, ?_⟩) ?_ ?_
   rotate_left
   ·intro w'
    go_simp
    with_reducible rfl
   rotate_left
   ·simp only [Act.put, List.setIfInBounds_toArray, List.set_cons_zero, List.set_cons_succ, gc_, lc_]
    rfl
   refine id_ (i := 6) (N := some 44) (v := ?_) (a' := ?_) #[true, true, true, true, true, true, true, false, false, false] rfl rfl (by kernel_rfl) (fun _ _ _ h => h) (Or.inl ⟨by rfl, ?_⟩) ?_ ?_
   rotate_left
   ·intro w'
    go_simp
    with_reducible rfl
   rotate_left
   ·simp only [Act.put, List.setIfInBounds_toArray, List.set_cons_zero, List.set_cons_succ, gc_, lc_]
    rfl
   refine one_ (i := 7) (N := some 45) #[true, true, true, true, true, true, true, true, false, false] rfl rfl (by kernel_rfl) (by decide) (fun K hK => ?_)
   refine step_copy_splice rfl (.tmp 41) (.tmp 44) 27 27 rfl 3 Try.underlying27 (by kernel_rfl) (some ⟨g, 1, none⟩) (some ⟨g, 0, none⟩) _ _ _ _ rfl rfl g 1 cur 3 HG.out (List.replicate 1 (.int .i64 x)) (by rw [List.length_replicate]; rfl) (fun _ => ⟨rfl, _, rfl, fv_ HG.out HL.out 1 (by decide)⟩) (by simp only [List.length_replicate]; have := un_ HL.out; omega) (dv_ x 1) w.heap.size w HD.out HGb.out ?_
   intro w4 hg4 hb4
   refine hK.out _ _ (trivial) (fun hHeld => ?_)
   clear hK K
   refine ej_ (a' := ?_) ?_ ?_
   rotate_left
   ·show Act.put _ (some 45) _ = _
    simp only [Act.put, List.setIfInBounds_toArray, List.set_cons_zero, List.set_cons_succ, gc_, lc_]
    rfl
   refine id_ (i := 8) (N := some 46) (v := ?_) (a' := ?_) #[true, true, true, true, true, true, true, true, true, false] rfl rfl (by kernel_rfl) (fun _ _ _ h => h) (Or.inl ⟨by rfl, ?_⟩) ?_ ?_
   rotate_left
   ·intro w'
    go_simp
    with_reducible rfl
   rotate_left
   ·simp only [Act.put, List.setIfInBounds_toArray, List.set_cons_zero, List.set_cons_succ, gc_, lc_]
    rfl
   refine id_ (i := 9) (N := some 8) (v := ?_) (a' := ?_) #[true, true, true, true, true, true, true, true, true, true] rfl rfl (by kernel_rfl) (fun _ _ _ h => h) (Or.inl ⟨by rfl, ?_⟩) ?_ ?_
   rotate_left
   ·intro w'
    go_simp
    with_reducible rfl
   rotate_left
   ·simp only [Act.put, List.setIfInBounds_toArray, List.set_cons_zero, List.set_cons_succ, gc_, lc_]
    rfl
   refine ik_ (by kernel_rfl) ?_
   have HB4 := Lib.hid hb4
   have HC4 := Lib.hid (show ∃ cur : List Value, Hid (w4.heap[g]? = some (.cells cur.toArray 3 (0, 0))) ∧ Hid (cur.take 6 = repL x 2 ∧ cur.length = cap) from ⟨_, hg4, Lib.hid ⟨aa1_ HL.out.1, by rw [length_splice _ _ _ (by simp only [List.length_replicate]; have := un_ HL.out; omega)]; exact HL.out.2⟩⟩)
   clear hb4 hg4
   go_wp2
   go_roundw
   case rel => exact ⟨2, by decide, by first | rfl | go_num | (simp [wrap64]; done), HC4, HB4⟩
   case measure => simp [intOf, wrap64]
  ·obtain ⟨cur, HG, HL⟩ := HC.out
   have hcap1 := eq_true (show (2 : Int) ≤ (cap : Int) from by omega)
   have hcap2 := eq_false (show ¬ cap = 2 from by omega)
   go_wp2
   refine mi_ (n := 10) (S := fun w' => True) (ds := []) #[false, false, false, false, false, false, false, false, false, false] (by kernel_rfl) rfl rfl (trivial) (fun hHeld => ?_)
   have HD := Lib.hid (ga_ HB.out)
   refine id_ (i := 0) (N := some 38) (v := ?_) (a' := ?_) #[true, false, false, false, false, false, false, false, false, false] rfl rfl (by kernel_rfl) (fun _ _ _ h => h) (Or.inl ⟨by rfl, ?_⟩) ?_ ?_
   rotate_left
   ·intro w'
    go_simp
    with_reducible rfl
   rotate_left
   ·simp only [Act.put, List.setIfInBounds_toArray, List.set_cons_zero, List.set_cons_succ, gc_, lc_]
    rfl
   refine id_ (i := 1) (N := some 39) (v := ?_) (a' := ?_) #[true, true, false, false, false, false, false, false, false, false] rfl rfl (by kernel_rfl) (fun _ _ _ h => h) (Or.inl ⟨by rfl, ?_⟩) ?_ ?_
   rotate_left
   ·intro w'
    go_simp
    with_reducible rfl
   rotate_left
   ·simp only [Act.put, List.setIfInBounds_toArray, List.set_cons_zero, List.set_cons_succ, gc_, lc_]
    rfl
   refine id_ (i := 2) (N := some 40) (v := ?_) (a' := ?_) #[true, true, true, false, false, false, false, false, false, false] rfl rfl (by kernel_rfl) (fun _ _ _ h => h) (Or.inl ⟨by rfl, ?_⟩) ?_ ?_
   rotate_left
   ·intro w'
    go_simp
    with_reducible rfl
   rotate_left
   ·simp only [Act.put, List.setIfInBounds_toArray, List.set_cons_zero, List.set_cons_succ, gc_, lc_]
    rfl
   refine id_ (i := 3) (N := some 41) (v := ?_) (a' := ?_) #[true, true, true, true, false, false, false, false, false, false] rfl rfl (by kernel_rfl) (fun _ _ _ h => h) (Or.inl ⟨by rfl, ?_⟩) ?_ ?_
   rotate_left
   ·intro w'
    go_simp
    with_reducible rfl
   rotate_left
   ·simp only [Act.put, List.setIfInBounds_toArray, List.set_cons_zero, List.set_cons_succ, gc_, lc_]
    rfl
   refine id_ (i := 4) (N := some 42) (v := ?_) (a' := ?_) #[true, true, true, true, true, false, false, false, false, false] rfl rfl (by kernel_rfl) (fun _ _ _ h => h) (Or.inl ⟨by rfl, ?_⟩) ?_ ?_
   rotate_left
   ·intro w'
    go_simp
    with_reducible rfl
   rotate_left
   ·simp only [Act.put, List.setIfInBounds_toArray, List.set_cons_zero, List.set_cons_succ, gc_, lc_]
    rfl
   refine id_ (i := 5) (N := some 43) (v := ?_) (a' := ?_) #[true, true, true, true, true, true, false, false, false, false] rfl rfl (by kernel_rfl) (fun _ _ _ h => h) (Or.inl ⟨by rfl, ?_⟩) ?_ ?_
   rotate_left
   ·intro w'
    go_simp
    with_reducible rfl
   rotate_left
   ·simp only [Act.put, List.setIfInBounds_toArray, List.set_cons_zero, List.set_cons_succ, gc_, lc_]
    rfl
   refine id_ (i := 6) (N := some 44) (v := ?_) (a' := ?_) #[true, true, true, true, true, true, true, false, false, false] rfl rfl (by kernel_rfl) (fun _ _ _ h => h) (Or.inl ⟨by rfl, ?_⟩) ?_ ?_
   rotate_left
   ·intro w'
    go_simp
    with_reducible rfl
   rotate_left
   ·simp only [Act.put, List.setIfInBounds_toArray, List.set_cons_zero, List.set_cons_succ, gc_, lc_]
    rfl
   refine one_ (i := 7) (N := some 45) #[true, true, true, true, true, true, true, true, false, false] rfl rfl (by kernel_rfl) (by decide) (fun K hK => ?_)
   refine step_copy_splice rfl (.tmp 41) (.tmp 44) 27 27 rfl 3 Try.underlying27 (by kernel_rfl) (some ⟨g, 2, none⟩) (some ⟨g, 0, none⟩) _ _ _ _ rfl rfl g 2 cur 3 HG.out (List.replicate 2 (.int .i64 x)) (by rw [List.length_replicate]; rfl) (fun _ => ⟨rfl, _, rfl, fv_ HG.out HL.out 2 (by decide)⟩) (by simp only [List.length_replicate]; have := un_ HL.out; omega) (dv_ x 2) w.heap.size w HD.out HGb.out ?_
   intro w4 hg4 hb4
   refine hK.out _ _ (trivial) (fun hHeld => ?_)
   clear hK K
   refine ej_ (a' := ?_) ?_ ?_
   rotate_left
   ·show Act.put _ (some 45) _ = _
    simp only [Act.put, List.setIfInBounds_toArray, List.set_cons_zero, List.set_cons_succ, gc_, lc_]
    rfl
   refine id_ (i := 8) (N := some 46) (v := ?_) (a' := ?_) #[true, true, true, true, true, true, true, true, true, false] rfl rfl (by kernel_rfl) (fun _ _ _ h => h) (Or.inl ⟨by rfl, ?_⟩) ?_ ?_
   rotate_left
   ·intro w'
    go_simp
    with_reducible rfl
   rotate_left
   ·simp only [Act.put, List.setIfInBounds_toArray, List.set_cons_zero, List.set_cons_succ, gc_, lc_]
    rfl
   refine id_ (i := 9) (N := some 8) (v := ?_) (a' := ?_) #[true, true, true, true, true, true, true, true, true, true] rfl rfl (by kernel_rfl) (fun _ _ _ h => h) (Or.inl ⟨by rfl, ?_⟩) ?_ ?_
   rotate_left
   ·intro w'
    go_simp
    with_reducible rfl
   rotate_left
   ·simp only [Act.put, List.setIfInBounds_toArray, List.set_cons_zero, List.set_cons_succ, gc_, lc_]
    rfl
   refine ik_ (by kernel_rfl) ?_
   have HB4 := Lib.hid hb4
   have HC4 := Lib.hid (show ∃ cur : List Value, Hid (w4.heap[g]? = some (.cells cur.toArray 3 (0, 0))) ∧ Hid (cur.take 6 = repL x 4 ∧ cur.length = cap) from ⟨_, hg4, Lib.hid ⟨ba1_ HL.out.1, by rw [length_splice _ _ _ (by simp only [List.length_replicate]; have := un_ HL.out; omega)]; exact HL.out.2⟩⟩)
   clear hb4 hg4
   go_wp2
   go_roundw
   case rel => exact ⟨4, by decide, by first | rfl | go_num | (simp [wrap64]; done), HC4, HB4⟩
   case measure => simp [intOf, wrap64]
  ·obtain ⟨cur, HG, HL⟩ := HC.out
   have hcap1 := eq_true (show (4 : Int) ≤ (cap : Int) from by omega)
   have hcap2 := eq_false (show ¬ cap = 4 from by omega)
   go_wp2
   refine mi_ (n := 10) (S := fun w' => True) (ds := []) #[false, false, false, false, false, false, false, false, false, false] (by kernel_rfl) rfl rfl (trivial) (fun hHeld => ?_)
   have HD := Lib.hid (ga_ HB.out)
   refine id_ (i := 0) (N := some 38) (v := ?_) (a' := ?_) #[true, false, false, false, false, false, false, false, false, false] rfl rfl (by kernel_rfl) (fun _ _ _ h => h) (Or.inl ⟨by rfl, ?_⟩) ?_ ?_
   rotate_left
   ·intro w'
    go_simp
    with_reducible rfl
   rotate_left
   ·simp only [Act.put, List.setIfInBounds_toArray, List.set_cons_zero, List.set_cons_succ, gc_, lc_]
    rfl
   refine id_ (i := 1) (N := some 39) (v := ?_) (a' := ?_) #[true, true, false, false, false, false, false, false, false, false] rfl rfl (by kernel_rfl) (fun _ _ _ h => h) (Or.inl ⟨by rfl, ?_⟩) ?_ ?_
   rotate_left
   ·intro w'
    go_simp
    with_reducible rfl
   rotate_left
   ·simp only [Act.put, List.setIfInBounds_toArray, List.set_cons_zero, List.set_cons_succ, gc_, lc_]
    rfl
   refine id_ (i := 2) (N := some 40) (v := ?_) (a' := ?_) #[true, true, true, false, false, false, false, false, false, false] rfl rfl (by kernel_rfl) (fun _ _ _ h => h) (Or.inl ⟨by rfl, ?_⟩) ?_ ?_
   rotate_left
   ·intro w'
    go_simp
    with_reducible rfl
   rotate_left
   ·simp only [Act.put, List.setIfInBounds_toArray, List.set_cons_zero, List.set_cons_succ, gc_, lc_]
    rfl
   refine id_ (i := 3) (N := some 41) (v := ?_) (a' := ?_) #[true, true, true, true, false, false, false, false, false, false] rfl rfl (by kernel_rfl) (fun _ _ _ h => h) (Or.inl ⟨by rfl, ?_⟩) ?_ ?_
   rotate_left
   ·intro w'
    go_simp
    with_reducible rfl
   rotate_left
   ·simp only [Act.put, List.setIfInBounds_toArray, List.set_cons_zero, List.set_cons_succ, gc_, lc_]
    rfl
   refine id_ (i := 4) (N := some 42) (v := ?_) (a' := ?_) #[true, true, true, true, true, false, false, false, false, false] rfl rfl (by kernel_rfl) (fun _ _ _ h => h) (Or.inl ⟨by rfl, ?_⟩) ?_ ?_
   rotate_left
   ·intro w'
    go_simp
    with_reducible rfl
   rotate_left
   ·simp only [Act.put, List.setIfInBounds_toArray, List.set_cons_zero, List.set_cons_succ, gc_, lc_]
    rfl
   refine id_ (i := 5) (N := some 43) (v := ?_) (a' := ?_) #[true, true, true, true, true, true, false, false, false, false] rfl rfl (by kernel_rfl) (fun _ _ _ h => h) (Or.inl ⟨by rfl, ?_⟩) ?_ ?_
   rotate_left
   ·intro w'
    go_simp
    with_reducible rfl
   rotate_left
   ·simp only [Act.put, List.setIfInBounds_toArray, List.set_cons_zero, List.set_cons_succ, gc_, lc_]
    rfl
   refine id_ (i := 6) (N := some 44) (v := ?_) (a' := ?_) #[true, true, true, true, true, true, true, false, false, false] rfl rfl (by kernel_rfl) (fun _ _ _ h => h) (Or.inl ⟨by rfl, ?_⟩) ?_ ?_
   rotate_left
   ·intro w'
    go_simp
    with_reducible rfl
   rotate_left
   ·simp only [Act.put, List.setIfInBounds_toArray, List.set_cons_zero, List.set_cons_succ, gc_, lc_]
    rfl
   refine one_ (i := 7) (N := some 45) #[true, true, true, true, true, true, true, true, false, false] rfl rfl (by kernel_rfl) (by decide) (fun K hK => ?_)
   refine step_copy_splice rfl (.tmp 41) (.tmp 44) 27 27 rfl 3 Try.underlying27 (by kernel_rfl) (some ⟨g, 4, none⟩) (some ⟨g, 0, none⟩) _ _ _ _ rfl rfl g 4 cur 3 HG.out (List.replicate 2 (.int .i64 x)) (by rw [List.length_replicate]; rfl) (fun _ => ⟨rfl, _, rfl, fv_ HG.out HL.out 2 (by decide)⟩) (by simp only [List.length_replicate]; have := un_ HL.out; omega) (dv_ x 2) w.heap.size w HD.out HGb.out ?_
   intro w4 hg4 hb4
   refine hK.out _ _ (trivial) (fun hHeld => ?_)
   clear hK K
   refine ej_ (a' := ?_) ?_ ?_
   rotate_left
   ·show Act.put _ (some 45) _ = _
    simp only [Act.put, List.setIfInBounds_toArray, List.set_cons_zero, List.set_cons_succ, gc_, lc_]
    rfl
   refine id_ (i := 8) (N := some 46) (v := ?_) (a' := ?_) #[true, true, true, true, true, true, true, true, true, false] rfl rfl (by kernel_rfl) (fun _ _ _ h => h) (Or.inl ⟨by rfl, ?_⟩) ?_ ?_
   rotate_left
   ·intro w'
    go_simp
    with_reducible rfl
   rotate_left
   ·simp only [Act.put, List.setIfInBounds_toArray, List.set_cons_zero, List.set_cons_succ, gc_, lc_]
    rfl
   refine id_ (i := 9) (N := some 8) (v := ?_) (a' := ?_) #[true, true, true, true, true, true, true, true, true, true] rfl rfl (by kernel_rfl) (fun _ _ _ h => h) (Or.inl ⟨by rfl, ?_⟩) ?_ ?_
   rotate_left
   ·intro w'
    go_simp
    with_reducible rfl
   rotate_left
   ·simp only [Act.put, List.setIfInBounds_toArray, List.set_cons_zero, List.set_cons_succ, gc_, lc_]
    rfl
   refine ik_ (by kernel_rfl) ?_
   have HB4 := Lib.hid hb4
   have HC4 := Lib.hid (show ∃ cur : List Value, Hid (w4.heap[g]? = some (.cells cur.toArray 3 (0, 0))) ∧ Hid (cur.take 6 = repL x 6 ∧ cur.length = cap) from ⟨_, hg4, Lib.hid ⟨ca1_ HL.out.1, by rw [length_splice _ _ _ (by simp only [List.length_replicate]; have := un_ HL.out; omega)]; exact HL.out.2⟩⟩)
   clear hb4 hg4
   go_wp2
   go_roundw
   case rel => exact ⟨6, by decide, by first | rfl | go_num | (simp [wrap64]; done), HC4, HB4⟩
   case measure => simp [intOf, wrap64]
  ·obtain ⟨cur, HG, HL⟩ := HC.out
   go_wp2
   go_ret
   exact ⟨_, rfl, rx_ HG.out HL.out hcap0 HX.out HGb.out, HB.out⟩
end Go.Proofs.Ytpkhgapifnjbeaa.G
end
section
namespace Go.Proofs.Ytpkhgapifnjbeaa.G
set_option linter.unusedVariables false
set_option linter.unusedSimpArgs false
open Go.RowKit Go.Proofs.YtpkhgapifnjbeaaW.PrintWords Go.Proofs.YtpkhgapifnjbeaaW.PrintLast Go.Proofs.YtpkhgapifnjbeaaW.PrintMore Go.Proofs.Ytpkhgapifnjbeaa.Rs
def tj_.f (l ps : List Int) : Option (List Int) := Go.Proofs.Ytpkhgapifnjbeaa.F.pc_.f 400 l ps
theorem tj_.dy_ (A0 : Option Addr) (c0 : Nat) (l0 : List Int) (A1 : Option Addr) (c1 : Nat) (l1 : List Int) (r : List Int) (w : World) (hr0 : Kd.C (Kd.int .i64) w A0 l0.length l0) (hc0 : l0.length ≤ c0) (hr1 : Kd.C (Kd.int .i64) w A1 l1.length l1) (hc1 : l1.length ≤ c1) (h : tj_.f l0 l1 = some r) :
  Calls Try.prog 47 #[.slice A0 l0.length c0, .slice A1 l1.length c1] w fun e w' => ∃ v0_ : Value, e = .returned (v0_) ∧ Kd.R (Kd.int .i64) 3 w' w.heap.size (fun _ => True) v0_ r ∧ Below w.heap.size w w' ∧ (l0 ≠ [] → r = [] → v0_ = .slice none 0 0) :=
 Go.Proofs.Ytpkhgapifnjbeaa.F.pc_.calls 400 A0 c0 l0 A1 c1 l1 r w hr0 hc0 hr1 hc1 h
theorem tj_.calls (A0 : Option Addr) (c0 : Nat) (l0 : List Int) (A1 : Option Addr) (c1 : Nat) (l1 : List Int) (r : List Int) (w : World) (hr0 : Kd.C (Kd.int .i64) w A0 l0.length l0) (hc0 : l0.length ≤ c0) (hr1 : Kd.C (Kd.int .i64) w A1 l1.length l1) (hc1 : l1.length ≤ c1) (h : tj_.f l0 l1 = some r) :
  Calls Try.prog 47 #[.slice A0 l0.length c0, .slice A1 l1.length c1] w fun e w' => ∃ v0_ : Value, e = .returned (v0_) ∧ Kd.R (Kd.int .i64) 3 w' w.heap.size (fun _ => True) v0_ r ∧ Below w.heap.size w w' :=
 (tj_.dy_ A0 c0 l0 A1 c1 l1 r w hr0 hc0 hr1 hc1 h).mono fun e w' ⟨v, h1, h2, h3, _⟩ => ⟨v, h1, h2, h3⟩
def nu_.f (l ps : List Int) (n : Int) : Option (List Int × Bool) := Go.Proofs.Ytpkhgapifnjbeaa.L.wa_.f 2000 l ps n
theorem nu_.calls (A0 : Option Addr) (c0 : Nat) (l0 : List Int) (A1 : Option Addr) (c1 : Nat) (l1 : List Int) (a2 : Int) (r1 : List Int) (r2 : Bool) (w : World) (hr0 : Kd.C (Kd.int .i64) w A0 l0.length l0) (hc0 : l0.length ≤ c0) (hr1 : Kd.C (Kd.int .i64) w A1 l1.length l1) (hc1 : l1.length ≤ c1) (h : nu_.f l0 l1 a2 = some (r1, r2)) :
  Calls Try.prog 53 #[.slice A0 l0.length c0, .slice A1 l1.length c1, .int .i64 a2] w fun e w' => ∃ v0_ : Value, e = .returned (.tuple #[v0_, .bool r2]) ∧ Kd.R (Kd.int .i64) 3 w' w.heap.size (fun _ => True) v0_ r1 ∧ Below w.heap.size w w' :=
 Go.Proofs.Ytpkhgapifnjbeaa.L.wa_.calls 2000 A0 c0 l0 A1 c1 l1 a2 r1 r2 w hr0 hc0 hr1 hc1 h
def gl_.f (l ps : List Int) : Option (List Int × Bool) := Go.Proofs.Ytpkhgapifnjbeaa.R.ob_.f 400 l ps
theorem gl_.calls (A0 : Option Addr) (c0 : Nat) (l0 : List Int) (A1 : Option Addr) (c1 : Nat) (l1 : List Int) (r1 : List Int) (r2 : Bool) (w : World) (hr0 : Kd.C (Kd.int .i64) w A0 l0.length l0) (hc0 : l0.length ≤ c0) (hr1 : Kd.C (Kd.int .i64) w A1 l1.length l1) (hc1 : l1.length ≤ c1) (h : gl_.f l0 l1 = some (r1, r2)) :
  Calls Try.prog 48 #[.slice A0 l0.length c0, .slice A1 l1.length c1] w fun e w' => ∃ v0_ : Value, e = .returned (.tuple #[v0_, .bool r2]) ∧ Kd.R (Kd.int .i64) 3 w' w.heap.size (fun _ => True) v0_ r1 ∧ Below w.heap.size w w' :=
 Go.Proofs.Ytpkhgapifnjbeaa.R.ob_.calls 400 A0 c0 l0 A1 c1 l1 r1 r2 w hr0 hc0 hr1 hc1 h
theorem fm_ (A0 : Option Addr) (c0 : Nat) (l0 : List Int) (A1 : Option Addr) (c1 : Nat) (l1 : List Int) (w : World)
  (hr0 : Kd.C (Kd.int .i64) w A0 l0.length l0) (hc0 : l0.length ≤ c0) (hr1 : Kd.C (Kd.int .i64) w A1 l1.length l1) (hc1 : l1.length ≤ c1) (hl : l0.length + l1.length ≤ 500) :
  Calls Try.prog 43 #[.slice (some ⟨w.heap.size, 0, none⟩) 2 2] (w.alloc (.cells #[.slice A0 l0.length c0, .slice A1 l1.length c1] 27)) fun e w' => ∃ v : Value, e = .returned v ∧ Kd.R (Kd.int .i64) 3 w' w.heap.size (fun _ => True) v (l0 ++ l1) ∧ Below w.heap.size w w' := by
 have hb := fa_ (Below.refl w.heap.size w) (.cells #[.slice A0 l0.length c0, .slice A1 l1.length c1] 27)
 have hg := heap_alloc_new w (.cells #[.slice A0 l0.length c0, .slice A1 l1.length c1] 27)
 refine (hu_ w.heap.size 2 A0 c0 l0 A1 c1 l1 _ ?_ ?_ (Kd.ie_ hr0 hb) hc0 (Kd.ie_ hr1 hb) hc1 (by omega) (by omega)).mono ?_
 ·rw [cell_of_row _ _ 0 _ _ (0, 0) hg]; rfl
 ·rw [cell_of_row _ _ 1 _ _ (0, 0) hg]; rfl
 ·rintro e w' ⟨v, he, hR, hB⟩
  exact ⟨v, he, Kd.wc_ hR (eb_ hb), gb_ hb hB⟩
def ct_.f (l : List Int) : Option (List Int) := if l.length ≤ 400 then some (l ++ List.replicate 6 (-1)) else none
theorem ct_.some {l t : List Int} (h : ct_.f l = some t) : t = l ++ List.replicate 6 (-1) ∧ l.length ≤ 400 := by
 unfold ct_.f at h
 by_cases hl : l.length ≤ 400
 ·rw [if_pos hl] at h; exact ⟨(Option.some.inj h).symm, hl⟩
 ·rw [if_neg hl] at h; cases h
def mp_.f (a b : List Int) : Option (List Int) := if a.length + b.length ≤ 400 then some (a ++ b) else none
theorem mp_.some {a b t : List Int} (h : mp_.f a b = some t) : t = a ++ b ∧ a.length + b.length ≤ 400 := by
 unfold mp_.f at h
 by_cases hl : a.length + b.length ≤ 400
 ·rw [if_pos hl] at h; exact ⟨(Option.some.inj h).symm, hl⟩
 ·rw [if_neg hl] at h; cases h
theorem bx_ {e base n c : Nat} {ok : Nat → Prop} {w : World} {A : Option Addr} {xs : List Int} (h : Kd.R (Kd.int .i64) e w base ok (.slice A n c) xs) (hn : 0 < xs.length) : ∃ g, A = some g := by
 obtain ⟨g, cap, he, _⟩ := Kd.yg_ h hn
 injection he with h1 _ _
 exact ⟨_, h1⟩
theorem ye1_ {l : List Int} {a : Int} (h : fi_.f l a = some true) : l ≠ [] := by
 rintro rfl
 unfold fi_.f at h
 simp at h
end Go.Proofs.Ytpkhgapifnjbeaa.G
end
section
namespace Go.Proofs.Ytpkhgapifnjbeaa.G
set_option linter.unusedVariables false
set_option linter.unusedSimpArgs false
open Go.RowKit Go.Proofs.Ytpkhgapifnjbeaa.Rs
theorem vand (n : Nat) : ∀ (x y : Nat → GF) (s : Nat), (∀ i, i < n → x i ≠ 0) → (∀ i j, i < n → j < n → x i = x j → i = j) → (∀ j, j < n → gsum n (fun i => y i * GF.pw (x i) (s + j)) = 0) → ∀ i, i < n → y i = 0 := by
 induction n with
 | zero => intro x y s _ _ _ i hi; omega
 | succ n ih =>
  intro x y s h0 hd he
  have key : ∀ i, i < n → y i * (x i + x n) = 0 := by
   refine ih x (fun i => y i * (x i + x n)) s (fun i hi => h0 i (by omega)) (fun i j hi hj => hd i j (by omega) (by omega)) fun j hj => ?_
   have e1 := he (j + 1) (by omega)
   have e0 := he j (by omega)
   simp only [gsum] at e1 e0
   have hF : gsum n (fun i => y i * (x i + x n) * GF.pw (x i) (s + j)) = gsum n (fun i => y i * GF.pw (x i) (s + (j + 1))) + x n * gsum n (fun i => y i * GF.pw (x i) (s + j)) := by
    rw [← ci_, ← uj_]
    refine vd_ fun i hi => ?_
    rw [show s + (j + 1) = (s + j) + 1 from rfl]
    show y i * (x i + x n) * GF.pw (x i) (s + j) = y i * (GF.pw (x i) (s + j) * x i) + x n * (y i * GF.pw (x i) (s + j))
    rw [GF.mul_add, GF.add_mul]
    congr 1 <;> ac_rfl
   have hn : y n * GF.pw (x n) (s + (j + 1)) = x n * (y n * GF.pw (x n) (s + j)) := by
    show y n * (GF.pw (x n) (s + j) * x n) = _
    ac_rfl
   have e1' := GF.bj_ e1
   have e0' := GF.bj_ e0
   show gsum n (fun i => y i * (x i + x n) * GF.pw (x i) (s + j)) = 0
   rw [hF, e1', e0', hn, GF.sg_]
  have hz : ∀ i, i < n → y i = 0 := fun i hi => (GF.mul_eq_zero _ _ (key i hi)).elim id fun h => absurd (hd i n (by omega) (by omega) (GF.bj_ h)) (by omega)
  intro i hi
  rcases Nat.lt_or_ge i n with h | h
  ·exact hz i h
  ·obtain rfl : i = n := by omega
   have e0 := he 0 (by omega)
   simp only [gsum] at e0
   rw [vd_ (g := fun _ => 0) (fun k hk => by rw [hz k hk, GF.zero_mul]), dj_, GF.zero_add] at e0
   exact (GF.mul_eq_zero _ _ e0).elim id fun h => absurd h (GF.sn_ (h0 i hi) _)
def ElM (R C : Nat) (M : Nat → Nat → Int) : Prop := ∀ i k, i < R → k < C → isEl (M i k) = true
def KerM (R C : Nat) (M : Nat → Nat → Int) (x : Nat → GF) : Prop := ∀ i, i < R → gsum C (fun k => toG (M i k) * x k) = 0
def dl (i k : Nat) : Int := if i = k then 1 else 0
def IdM (R c : Nat) (M : Nat → Nat → Int) : Prop := ∀ i k, i < R → k < c → M i k = dl i k
theorem mw_ {a b : Int} (ha : isEl a = true) (hb : isEl b = true) : toG (mulI a b) = toG a * toG b := by rw [pp_ ha hb, yf_]
theorem in_ {a b : Int} (ha : isEl a = true) (hb : isEl b = true) : toG (xorI a b) = toG a + toG b := by rw [ml_ ha hb, yf_]
theorem dc1_ {a : Int} (ha : isEl a = true) : toG (invI a) = GF.inv (toG a) := by
 unfold invI; rw [if_pos ha, yf_]
theorem xi_ {a : Int} (ha : isEl a = true) : toG a = 0 ↔ a = 0 := by
 refine ⟨fun h => ?_, fun h => by rw [h]; rfl⟩
 rw [← vh_ ((xd_ a).1 ha).1 ((xd_ a).1 ha).2, h]; rfl
theorem cr_ (M : Nat → Nat → Int) (c R : Nat) : (pivot M c R = R ∧ ∀ i, c ≤ i → i < R → M i c = 0) ∨ (c ≤ pivot M c R ∧ pivot M c R < R ∧ M (pivot M c R) c ≠ 0) := by
 unfold pivot
 cases h : (List.range R).find? (fun i => decide (c ≤ i) && decide (M i c ≠ 0)) with
 | none =>
  refine .inl ⟨rfl, fun i h1 h2 => ?_⟩
  rw [List.find?_range_eq_none] at h
  have := h i h2
  simpa [h1] using this
 | some p =>
  rw [List.find?_range_eq_some] at h
  refine .inr ?_
  simp only [Bool.and_eq_true, decide_eq_true_eq, List.mem_range] at h
  exact ⟨h.1.1, h.2.1, h.1.2⟩
theorem lw_ {R : Nat} (M : Nat → Nat → Int) (a b : Nat) (ha : a < R) (hb : b < R) (i : Nat) (hi : i < R) : ∃ j, j < R ∧ qh_ M a b i = M j := by
 unfold qh_
 by_cases h1 : i = a
 ·exact ⟨b, hb, by rw [if_pos h1]⟩
 ·rw [if_neg h1]
  by_cases h2 : i = b
  ·exact ⟨a, ha, by rw [if_pos h2]⟩
  ·exact ⟨i, hi, by rw [if_neg h2]⟩
theorem bc1_ {R : Nat} (M : Nat → Nat → Int) (a b : Nat) (ha : a < R) (hb : b < R) (j : Nat) (hj : j < R) : ∃ i, i < R ∧ qh_ M a b i = M j := by
 by_cases h1 : j = a
 ·exact ⟨b, hb, by unfold qh_; by_cases h : b = a <;> simp [h1, h]⟩
 ·by_cases h2 : j = b
  ·exact ⟨a, ha, by simp [qh_, h2]⟩
  ·exact ⟨j, hj, by simp [qh_, h1, h2]⟩
section
variable {R C : Nat} {M : Nat → Nat → Int}
theorem ElM.swap (h : ElM R C M) {a b : Nat} (ha : a < R) (hb : b < R) : ElM R C (qh_ M a b) := fun i k hi hk => by
 obtain ⟨j, hj, e⟩ := lw_ M a b ha hb i hi
 rw [e]; exact h j k hj hk
theorem gb1_ {a b : Nat} (ha : a < R) (hb : b < R) (x : Nat → GF) : KerM R C (qh_ M a b) x ↔ KerM R C M x := by
 refine ⟨fun h j hj => ?_, fun h i hi => ?_⟩
 ·obtain ⟨i, hi, e⟩ := bc1_ M a b ha hb j hj
  have := h i hi
  rwa [e] at this
 ·obtain ⟨j, hj, e⟩ := lw_ M a b ha hb i hi
  rw [e]; exact h j hj
theorem ElM.scale (h : ElM R C M) {c : Nat} {b : Int} : ElM R C (fk_ M c b) := fun i k hi hk => by
 unfold fk_; split
 ·exact cl_ _ _
 ·exact h i k hi hk
theorem hz_ (h : ElM R C M) {c : Nat} {b : Int} (hb : isEl b = true) (hb0 : toG b ≠ 0) (x : Nat → GF) : KerM R C (fk_ M c b) x ↔ KerM R C M x := by
 have e : ∀ i, i < R → gsum C (fun k => toG (fk_ M c b i k) * x k) = (if i = c then toG b else 1) * gsum C (fun k => toG (M i k) * x k) := by
  intro i hi
  rw [← ci_]
  refine vd_ fun k hk => ?_
  unfold fk_
  by_cases hc : i = c
  ·rw [if_pos hc, if_pos hc, mw_ (h i k hi hk) hb]; ac_rfl
  ·rw [if_neg hc, if_neg hc, GF.one_mul]
 refine ⟨fun hk i hi => ?_, fun hk i hi => ?_⟩
 ·have := hk i hi
  rw [e i hi] at this
  refine (GF.mul_eq_zero _ _ this).elim (fun h1 => ?_) id
  by_cases hc : i = c
  ·rw [if_pos hc] at h1; exact absurd h1 hb0
  ·rw [if_neg hc] at h1; exact absurd h1 GF.one_ne_zero
 ·rw [e i hi, hk i hi, GF.mul_zero]
theorem ju_ (h : ElM R C M) {c : Nat} (hc : c < R) (hcC : c < C) (i k : Nat) (hi : i < R) (hk : k < C) : isEl (on_ M c i k) = true ∧ toG (on_ M c i k) = toG (M i k) + (if i = c then 0 else toG (M i c)) * toG (M c k) := by
 unfold on_
 by_cases h1 : i ≠ c ∧ M i c ≠ 0
 ·rw [if_pos h1, if_neg h1.1]
  refine ⟨gt_ (h i k hi hk) (cl_ _ _), ?_⟩
  rw [in_ (h i k hi hk) (cl_ _ _), mw_ (h i c hi hcC) (h c k hc hk)]
 ·rw [if_neg h1]
  refine ⟨h i k hi hk, ?_⟩
  by_cases h2 : i = c
  ·rw [if_pos h2, GF.zero_mul, GF.add_zero]
  ·have h3 : M i c = 0 := Classical.byContradiction fun h3 => h1 ⟨h2, h3⟩
   rw [if_neg h2, h3, show toG 0 = 0 from rfl, GF.zero_mul, GF.add_zero]
theorem fb1_ (h : ElM R C M) {c : Nat} (hc : c < R) (hcC : c < C) (x : Nat → GF) : KerM R C (on_ M c) x ↔ KerM R C M x := by
 have e : ∀ i, i < R → gsum C (fun k => toG (on_ M c i k) * x k) = gsum C (fun k => toG (M i k) * x k) + (if i = c then 0 else toG (M i c)) * gsum C (fun k => toG (M c k) * x k) := by
  intro i hi
  rw [← ci_, ← uj_]
  refine vd_ fun k hk => ?_
  rw [(ju_ h hc hcC i k hi hk).2, GF.add_mul]
  congr 1
  ac_rfl
 refine ⟨fun hk => ?_, fun hk i hi => by rw [e i hi, hk i hi, hk c hc, GF.mul_zero, GF.add_zero]⟩
 have hc0 : gsum C (fun k => toG (M c k) * x k) = 0 := by
  have := hk c hc
  rwa [e c hc, if_pos rfl, GF.zero_mul, GF.add_zero] at this
 intro i hi
 have := hk i hi
 rwa [e i hi, hc0, GF.mul_zero, GF.add_zero] at this
theorem se1_ (h : ElM R C M) {c p : Nat} (hcp : c ≤ p) (hp : p < R) (hcC : c < C) (hz : M p c ≠ 0) (hI : IdM R c M) :
  ElM R C (oq_ M c p) ∧ (∀ x, KerM R C (oq_ M c p) x ↔ KerM R C M x) ∧ IdM R (c + 1) (oq_ M c p) := by
 have hcR : c < R := by omega
 have h1 := h.swap hcR hp
 obtain ⟨M1, hM1⟩ : ∃ M1, M1 = qh_ M c p := ⟨_, rfl⟩
 have hcc : M1 c c = M p c := by rw [hM1]; simp [qh_]
 have hk1 := gb1_ (C := C) (M := M) hcR hp
 have hI1 : IdM R c M1 := by
  intro i k hi hk
  rw [hM1]
  unfold qh_ dl
  by_cases e1 : i = c
  ·rw [if_pos e1, hI p k hp hk]; unfold dl; rw [if_neg (by omega), if_neg (by omega)]
  ·rw [if_neg e1]
   by_cases e2 : i = p
   ·rw [if_pos e2, hI c k hcR hk]; unfold dl; rw [if_neg (by omega), if_neg (by omega)]
   ·rw [if_neg e2]; exact hI i k hi hk
 rw [← hM1] at h1 hk1
 have hb0 : toG (M1 c c) ≠ 0 := fun e => hz (by rw [← hcc]; exact (xi_ (h1 c c hcR hcC)).1 e)
 have hbe : isEl (invI (M1 c c)) = true := ez_ _
 have hbi := dc1_ (h1 c c hcR hcC)
 have hmi : toG (M1 c c) * toG (invI (M1 c c)) = 1 := by rw [hbi]; exact GF.su_ _ hb0
 have hb1 : toG (invI (M1 c c)) ≠ 0 := fun e => by rw [e, GF.mul_zero] at hmi; exact GF.one_ne_zero hmi.symm
 have h2 := h1.scale (c := c) (b := invI (M1 c c))
 have hk2 := hz_ h1 (c := c) hbe hb1
 obtain ⟨M2, hM2⟩ : ∃ M2, M2 = fk_ M1 c (invI (M1 c c)) := ⟨_, rfl⟩
 have hI2 : IdM R c M2 ∧ M2 c c = 1 := by
  constructor
  ·intro i k hi hk
   rw [hM2]; unfold fk_
   by_cases e1 : i = c
   ·rw [if_pos e1, hI1 i k hi hk, e1]; unfold dl; rw [if_neg (by omega), ek_]
   ·rw [if_neg e1]; exact hI1 i k hi hk
  ·rw [hM2]; unfold fk_
   rw [if_pos rfl, pp_ (h1 c c hcR hcC) hbe, hmi]; rfl
 rw [← hM2] at h2 hk2
 have hs : oq_ M c p = on_ M2 c := by unfold oq_; rw [← hM1, ← hM2]
 rw [hs]
 refine ⟨fun i k hi hk => (ju_ h2 hcR hcC i k hi hk).1, fun x => (fb1_ h2 hcR hcC x).trans ((hk2 x).trans (hk1 x)), fun i k hi hk => ?_⟩
 have he := ju_ h2 hcR hcC i k hi (by omega)
 rcases Nat.lt_or_ge k c with hkc | hkc
 ·have : toG (M2 c k) = 0 := by rw [hI2.1 c k hcR hkc]; unfold dl; rw [if_neg (by omega)]; rfl
  rw [this, GF.mul_zero, GF.add_zero] at he
  have h3 := congrArg ofG he.2
  rwa [vh_ ((xd_ _).1 he.1).1 ((xd_ _).1 he.1).2, vh_ ((xd_ _).1 (h2 i k hi (by omega))).1 ((xd_ _).1 (h2 i k hi (by omega))).2, hI2.1 i k hi hkc] at h3
 ·obtain rfl : k = c := by omega
  rw [hI2.2] at he
  have h3 := congrArg ofG he.2
  rw [vh_ ((xd_ _).1 he.1).1 ((xd_ _).1 he.1).2] at h3
  rw [h3]
  unfold dl
  by_cases e1 : i = k
  ·rw [if_pos e1, if_pos e1, GF.zero_mul, GF.add_zero, e1, hI2.2]; rfl
  ·rw [if_neg e1, if_neg e1, show toG 1 = 1 from rfl, GF.mul_one, GF.sg_]; rfl
theorem gj_ok (h : ElM R C M) : ∀ (c : Nat) (M' : Nat → Nat → Int), c ≤ C → gjI R M c = some M' → ElM R C M' ∧ (∀ x, KerM R C M' x ↔ KerM R C M x) ∧ IdM R c M' ∧ c ≤ R := by
 intro c
 induction c with
 | zero =>
  intro M' _ e
  obtain rfl := Option.some.inj e
  exact ⟨h, fun _ => Iff.rfl, fun _ _ _ hk => absurd hk (by omega), Nat.zero_le _⟩
 | succ c ih =>
  intro M' hc e
  unfold gjI at e
  cases h1 : gjI R M c with
  | none => rw [h1] at e; cases e
  | some M1 =>
   rw [h1] at e
   obtain ⟨a1, a2, a3, _⟩ := ih M1 (by omega) h1
   rcases cr_ M1 c R with ⟨hp, _⟩ | ⟨hp1, hp2, hp3⟩
   ·simp only [hp, if_true] at e; cases e
   ·simp only at e
    rw [if_neg (by omega)] at e
    obtain rfl := Option.some.inj e
    obtain ⟨b1, b2, b3⟩ := se1_ a1 hp1 hp2 (by omega) hp3 a3
    exact ⟨b1, fun x => (b2 x).trans (a2 x), b3, by omega⟩
theorem td1_ (h : ElM R C M) : ∀ (n : Nat), n ≤ C → gjI R M n = none → ∃ x : Nat → GF, (∃ k, k < n ∧ x k ≠ 0) ∧ (∀ k, n ≤ k → x k = 0) ∧ KerM R C M x := by
 intro n
 induction n with
 | zero => intro _ e; cases e
 | succ c ih =>
  intro hc e
  unfold gjI at e
  cases h1 : gjI R M c with
  | none =>
   obtain ⟨x, ⟨k, hk, hk0⟩, hz, hK⟩ := ih (by omega) h1
   exact ⟨x, ⟨k, by omega, hk0⟩, fun k hk => hz k (by omega), hK⟩
  | some M1 =>
   rw [h1] at e
   obtain ⟨a1, a2, a3, a4⟩ := gj_ok h c M1 (by omega) h1
   rcases cr_ M1 c R with ⟨hp, hz⟩ | ⟨hp1, hp2, hp3⟩
   ·refine ⟨fun k => if k < c then toG (M1 k c) else if k = c then 1 else 0, ⟨c, by omega, ?_⟩, fun k hk => ?_, (a2 _).1 fun i hi => ?_⟩
    ·simp [GF.one_ne_zero]
    ·simp only; rw [if_neg (by omega), if_neg (by omega)]
    ·obtain ⟨f, hf⟩ : ∃ f : Nat → GF, f = fun k => toG (M1 i k) * (if k < c then toG (M1 k c) else if k = c then 1 else 0) := ⟨_, rfl⟩
     have hbig : ∀ d, c + 1 + d ≤ C → gsum (c + 1 + d) f = gsum (c + 1) f := by
      intro d
      induction d with
      | zero => intro _; rfl
      | succ d ihd =>
       intro hd
       show gsum (c + 1 + d) f + f (c + 1 + d) = _
       rw [ihd (by omega), hf]
       simp only
       rw [if_neg (by omega), if_neg (by omega), GF.mul_zero, GF.add_zero]
     have hC := hbig (C - (c + 1)) (by omega)
     rw [show c + 1 + (C - (c + 1)) = C from by omega] at hC
     rw [← hf, hC]
     simp only [gsum]
     have hfc : f c = toG (M1 i c) := by rw [hf]; simp [GF.mul_one]
     have hlow : ∀ k, k < c → f k = if i = k then toG (M1 k c) else 0 := by
      intro k hk
      rw [hf]; simp only
      rw [a3 i k hi hk, if_pos hk]
      unfold dl
      by_cases e1 : i = k
      ·rw [if_pos e1, if_pos e1, show toG 1 = 1 from rfl, GF.one_mul]
      ·rw [if_neg e1, if_neg e1, show toG 0 = 0 from rfl, GF.zero_mul]
     rw [hfc]
     rcases Nat.lt_or_ge i c with hic | hic
     ·rw [mk_ c f i hic (fun k hk hne => by rw [hlow k hk, if_neg (fun q => hne q.symm)]), hlow i hic, if_pos rfl, GF.sg_]
     ·rw [vd_ (g := fun _ => 0) (fun k hk => by rw [hlow k hk, if_neg (by omega)]), dj_, hz i hic hi]; rfl
   ·simp only at e
    rw [if_neg (by omega)] at e
    cases e
end
end Go.Proofs.Ytpkhgapifnjbeaa.G
end
section
namespace Go.Proofs.Ytpkhgapifnjbeaa.G
set_option linter.unusedVariables false
set_option linter.unusedSimpArgs false
open Go.RowKit Go.Proofs.YtpkhgapifnjbeaaW.PrintWords Go.Proofs.YtpkhgapifnjbeaaW.PrintLast Go.Proofs.YtpkhgapifnjbeaaW.PrintMore Go.Proofs.Ytpkhgapifnjbeaa.Rs
def ag_ (n : Nat) (ps : List Int) : Prop := ps.length ≤ 6 ∧ (∀ k, k < ps.length → 0 ≤ ps.getD k 0 ∧ ps.getD k 0 < n)
def rowF (n : Nat) (ps : List Int) (j : Nat) : List Int := ps.map fun p => atI n p ((j + 1 : Nat) : Int)
def matFill (l ps : List Int) : Nat → List (List Int)
 | 0 => []
 | j + 1 => matFill l ps j ++ [rowF l.length ps j ++ [ofG (psum l (j + 1) l.length)]]
theorem ff_ (l ps : List Int) (j : Nat) : (matFill l ps j).length = j := by
 induction j with
 | zero => rfl
 | succ j ih => simp [matFill, ih]
theorem nk_ (l ps : List Int) : ∀ (j x : Nat), x < j → (matFill l ps j).getD x [] = rowF l.length ps x ++ [ofG (psum l (x + 1) l.length)] := by
 intro j
 induction j with
 | zero => intro x hx; omega
 | succ j ih =>
  intro x hx
  simp only [matFill]
  rcases Nat.lt_or_ge x j with h | h
  ·rw [List.getD_eq_getElem?_getD, List.getElem?_append_left (by rw [ff_]; exact h), ← List.getD_eq_getElem?_getD, ih x h]
  ·obtain rfl : x = j := by omega
   rw [List.getD_eq_getElem?_getD, List.getElem?_append_right (by rw [ff_]; exact Nat.le_refl _), ff_]
   simp
def ot_ (l ps ys : List Int) : Nat → List Int
 | 0 => l
 | i + 1 => (ot_ l ps ys i).set (ps.getD i 0).toNat (xorI (mx (l.getD (ps.getD i 0).toNat 0) 0) (ys.getD i 0))
theorem fo_ (l ps ys : List Int) (i : Nat) : (ot_ l ps ys i).length = l.length := by
 induction i with
 | zero => rfl
 | succ i ih => simp only [ot_, List.length_set, ih]
def vm_ (l ps : List Int) : List Int := if (solR 6 ps.length (kg_ (matFill l ps 6))).2 = true then ot_ l ps (solR 6 ps.length (kg_ (matFill l ps 6))).1 ps.length else []
section
open Go.Proofs.Ytpkhgapifnjbeaa.F
theorem yz_ {l : List Int} {p : Int} (h : 0 ≤ p) : rd l p = l.getD p.toNat 0 := by
 obtain ⟨n, rfl⟩ : ∃ n : Nat, p = n := ⟨p.toNat, by omega⟩
 rw [zd_, Int.toNat_natCast]
theorem sd1_ (l ps ys : List Int) (hl : l.length ≤ 1000) (hp : ag_ l.length ps) (hy : ys.length = ps.length) : ∀ (d i k : Nat), i + d = ps.length → d < k → pc_.l2 k l ys (ot_ l ps ys i) ps (ps.length : Int) (i : Int) = some (ot_ l ps ys ps.length) := by
 intro d
 induction d with
 | zero =>
  intro i k hi hk
  obtain ⟨k, rfl⟩ : ∃ m, k = m + 1 := ⟨k - 1, by omega⟩
  simp only [pc_.l2]
  rw [if_neg (by omega)]
  obtain rfl : i = ps.length := by omega
  rfl
 | succ d ih =>
  intro i k hi hk
  obtain ⟨k, rfl⟩ : ∃ m, k = m + 1 := ⟨k - 1, by omega⟩
  have h6 := hp.1
  obtain ⟨hp0, hp1⟩ := hp.2 i (by omega)
  have hs : wrap64 ((i : Int) + 1) = ((i + 1 : Nat) : Int) := by unfold wrap64; omega
  simp only [pc_.l2]
  rw [if_pos (by omega), if_pos (by omega), if_pos (by omega)]
  rw [zd_ ps i, zd_ ys i, yz_ hp0, hs]
  rw [if_pos hp0, if_pos (by omega), if_pos (by omega), if_pos (by rw [fo_]; omega)]
  exact ih (i + 1) k (by omega) (by omega)
theorem rd1_ (l ps : List Int) (x5 : List (List Int)) (syn : List Int) (s : Int) (j : Nat) (r : List Int) (K : Nat) (hj : j < 6) (h5 : x5.length < 1000) (hps : ps.length ≤ 6)
  (hc : ∀ k, K ≤ k → pc_.l0 k l ps (x5 ++ [rowF l.length ps j ++ [s]]) syn ((j + 1 : Nat) : Int) = some r) :
  ∀ (d i k : Nat), i + d = ps.length → K + d < k → pc_.l1 k l ps x5 (j : Int) s ((ps.take i).map fun p => atI l.length p ((j + 1 : Nat) : Int)) syn (j : Int) ps (ps.length : Int) (i : Int) = some r := by
 have hsj : wrap64 ((j : Int) + 1) = ((j + 1 : Nat) : Int) := by unfold wrap64; omega
 intro d
 induction d with
 | zero =>
  intro i k hi hk
  obtain ⟨k, rfl⟩ : ∃ m, k = m + 1 := ⟨k - 1, by omega⟩
  simp only [pc_.l1]
  rw [if_neg (by omega), if_pos (by simp only [List.length_map, List.length_take]; omega), if_pos (by omega), hsj, List.take_of_length_le (by omega)]
  exact hc k (by omega)
 | succ d ih =>
  intro i k hi hk
  obtain ⟨k, rfl⟩ : ∃ m, k = m + 1 := ⟨k - 1, by omega⟩
  have hs : wrap64 ((i : Int) + 1) = ((i + 1 : Nat) : Int) := by unfold wrap64; omega
  simp only [pc_.l1]
  rw [if_pos (by omega), if_pos (by omega), if_pos (by omega)]
  simp only [g_at.f, Option.bind_some]
  rw [if_pos (by simp only [List.length_map, List.length_take]; omega), hs, hsj, zd_]
  have := ih (i + 1) k (by omega) (by omega)
  rwa [List.take_add_one, List.getElem?_eq_getElem (by omega), List.map_append, show (List.map (fun p => atI l.length p ((j + 1 : Nat) : Int)) (some (ps[i]'(by omega))).toList) = [atI l.length (ps.getD i 0) ((j + 1 : Nat) : Int)] from by rw [List.getD_eq_getElem?_getD, List.getElem?_eq_getElem (by omega)]; rfl] at this
theorem pe1_ (l ps : List Int) (hps : ps.length ≤ 6) : jr_ (matFill l ps 6) ((matFill l ps 6).headD []).length = true := by
 have hrow : ∀ x ∈ matFill l ps 6, x.length = ps.length + 1 := by
  intro x hx
  obtain ⟨i, hi, rfl⟩ := List.mem_iff_getElem.1 hx
  have := nk_ l ps 6 i (by rwa [ff_] at hi)
  rw [List.getD_eq_getElem?_getD, List.getElem?_eq_getElem hi] at this
  simp only [Option.getD_some] at this
  rw [this]; simp [rowF]
 have hh : ((matFill l ps 6).headD []).length = ps.length + 1 := by
  apply hrow
  rw [List.headD_eq_head?_getD, List.head?_eq_getElem?, List.getElem?_eq_getElem (by rw [ff_]; omega)]
  exact List.getElem_mem _
 unfold jr_
 rw [hh, ff_]
 simp only [Bool.and_eq_true, decide_eq_true_eq, List.all_eq_true]
 exact ⟨by omega, hrow⟩
theorem vx_ (l ps : List Int) (hps : ps.length ≤ 6) : ti_.f (matFill l ps 6) = some (solR 6 ps.length (kg_ (matFill l ps 6))) := by
 unfold ti_.f
 rw [if_pos (pe1_ l ps hps), ff_]
 have hh : ((matFill l ps 6).headD []).length = ps.length + 1 := by
  have h0 := nk_ l ps 6 0 (by omega)
  rw [List.headD_eq_head?_getD, List.head?_eq_getElem?, ← List.getD_eq_getElem?_getD, h0]
  simp [rowF]
 rw [hh, Nat.add_sub_cancel]
theorem os_ {R n : Nat} {M : Nat → Nat → Int} (h : (solR R n M).2 = true) : (solR R n M).1.length = n := by
 unfold solR at h ⊢
 cases hg : gjI R M n with
 | none => rw [hg] at h; cases h
 | some M' =>
  rw [hg] at h
  simp only at h ⊢
  split at h
  ·rw [if_pos (by assumption)]; simp
  ·cases h
theorem qd1_ (l ps : List Int) (hl : l.length ≤ 15) (hp : ag_ l.length ps) : ∀ (d j k : Nat), j + d = 6 → 20 + d * 10 < k → pc_.l0 k l ps (matFill l ps j) (synI l) (j : Int) = some (vm_ l ps) := by
 intro d
 induction d with
 | zero =>
  intro j k hj hk
  obtain ⟨k, rfl⟩ : ∃ m, k = m + 1 := ⟨k - 1, by omega⟩
  obtain rfl : j = 6 := by omega
  simp only [pc_.l0]
  rw [if_neg (by omega), vx_ l ps hp.1]
  simp only [Option.bind_some]
  unfold vm_
  by_cases hs : (solR 6 ps.length (kg_ (matFill l ps 6))).2 = true
  ·rw [if_pos hs, if_pos hs]
   unfold si_.f
   rw [if_pos (by omega)]
   simp only [Option.bind_some]
   have := hp.1
   exact sd1_ l ps _ (by omega) hp (os_ hs) ps.length 0 k (by omega) (by omega)
  ·rw [if_neg hs, if_neg hs]
 | succ d ih =>
  intro j k hj hk
  obtain ⟨k, rfl⟩ : ∃ m, k = m + 1 := ⟨k - 1, by omega⟩
  have hlen : (synI l).length = 6 := by simp [synI]
  simp only [pc_.l0]
  rw [if_pos (by omega), if_pos (by omega), if_pos (by omega)]
  have hs : rd (synI l) (j : Int) = ofG (psum l (j + 1) l.length) := by
   rw [zd_]
   unfold synI
   rw [List.getD_eq_getElem?_getD, List.getElem?_map, List.getElem?_range (by omega)]
   rfl
  have hp6 := hp.1
  have hrow := rd1_ l ps (matFill l ps j) (synI l) (ofG (psum l (j + 1) l.length)) j (vm_ l ps) (20 + d * 10 + 1) (by omega) (by rw [ff_]; omega) hp6 (fun k hk => ih (j + 1) k (by omega) (by omega)) ps.length 0 k (by omega) (by omega)
  rw [hs]
  exact hrow
theorem fill_f (l ps : List Int) (hl : l.length ≤ 15) (hp : ag_ l.length ps) (k : Nat) (hk : 100 ≤ k) : pc_.f k l ps = some (vm_ l ps) := by
 unfold pc_.f yl_.f
 rw [if_pos hl]
 simp only [Option.bind_some]
 exact qd1_ l ps hl hp 6 0 k (by omega) (by omega)
theorem lp_ (l ps : List Int) (hl : l.length ≤ 15) (hp : ag_ l.length ps) : tj_.f l ps = some (vm_ l ps) := fill_f l ps hl hp 400 (by omega)
end
end Go.Proofs.Ytpkhgapifnjbeaa.G
end
section
namespace Go.Proofs.Ytpkhgapifnjbeaa.G
set_option linter.unusedVariables false
set_option linter.unusedSimpArgs false
open Go.RowKit Go.Proofs.YtpkhgapifnjbeaaW.PrintWords Go.Proofs.YtpkhgapifnjbeaaW.PrintLast Go.Proofs.YtpkhgapifnjbeaaW.PrintMore Go.Proofs.Ytpkhgapifnjbeaa.Rs
def zeroTo (l ps : List Int) : Nat → List Int
 | 0 => l
 | i + 1 => (zeroTo l ps i).set (ps.getD i 0).toNat 0
theorem df_ (l ps : List Int) (i : Nat) : (zeroTo l ps i).length = l.length := by
 induction i with
 | zero => rfl
 | succ i ih => simp only [zeroTo, List.length_set, ih]
def fillS (l ps : List Int) : List Int × Bool :=
 match gjI 6 (kg_ (matFill (zeroTo l ps ps.length) ps 6)) ps.length with
 | none => ([], false)
 | some M => (tailTo ps M ps.length (zeroTo l ps ps.length), ve_ (tailTo ps M ps.length (zeroTo l ps ps.length)))
theorem dk_ (l ps : List Int) (hps : ps.length ≤ 6) (i k : Nat) (hi : i < 6) : kg_ (matFill l ps 6) i k = if k < ps.length then atI l.length (ps.getD k 0) ((i + 1 : Nat) : Int) else if k = ps.length then ofG (psum l (i + 1) l.length) else 0 := by
 unfold kg_
 rw [nk_ l ps 6 i hi]
 by_cases h1 : k < ps.length
 ·rw [if_pos h1, List.getD_eq_getElem?_getD, List.getElem?_append_left (by simpa [rowF] using h1)]
  unfold rowF
  rw [List.getElem?_map, List.getElem?_eq_getElem h1]
  rw [List.getD_eq_getElem?_getD, List.getElem?_eq_getElem h1]
  rfl
 ·rw [if_neg h1]
  by_cases h2 : k = ps.length
  ·rw [if_pos h2, List.getD_eq_getElem?_getD, List.getElem?_append_right (by simp [rowF]; omega)]
   simp [rowF, h2]
  ·rw [if_neg h2, List.getD_eq_getElem?_getD, List.getElem?_eq_none (by simp [rowF]; omega)]; rfl
theorem dw_ (n : Nat) (p j : Int) : isEl (atI n p j) = true := fz_ _
theorem bs_ (l ps : List Int) (hps : ps.length ≤ 6) : ElM 6 (ps.length + 1) (kg_ (matFill l ps 6)) := by
 intro i k hi hk
 rw [dk_ l ps hps i k hi]
 split
 ·exact dw_ _ _ _
 ·split
  ·exact jg_ _
  ·rfl
section
open Go.Proofs.Ytpkhgapifnjbeaa.R
theorem yc1_ (n : Nat) (ps o : List Int) (x9 : List (List Int)) (s : Int) (j : Nat) (r : List Int × Bool) (K : Nat) (hj : j < 6) (h5 : x9.length < 1000) (hps : ps.length ≤ 6) (hs : bv_.f o ((j + 1 : Nat) : Int) = some s)
  (hc : ∀ k, K ≤ k → ob_.l1 k ps (n : Int) o (x9 ++ [rowF n ps j ++ [s]]) ((j + 2 : Nat) : Int) = some r) :
  ∀ (d i k : Nat), i + d = ps.length → K + d < k → ob_.l2 k ps (n : Int) o x9 ((j + 1 : Nat) : Int) ((ps.take i).map fun p => atI n p ((j + 1 : Nat) : Int)) (i : Int) = some r := by
 have hsj : wrap64 (((j + 1 : Nat) : Int) + 1) = ((j + 2 : Nat) : Int) := by unfold wrap64; omega
 intro d
 induction d with
 | zero =>
  intro i k hi hk
  obtain ⟨k, rfl⟩ : ∃ m, k = m + 1 := ⟨k - 1, by omega⟩
  simp only [ob_.l2]
  rw [if_neg (by omega), hs]
  simp only [Option.bind_some]
  rw [if_pos (by simp only [List.length_map, List.length_take]; omega), if_pos (by omega), hsj, List.take_of_length_le (by omega)]
  exact hc k (by omega)
 | succ d ih =>
  intro i k hi hk
  obtain ⟨k, rfl⟩ : ∃ m, k = m + 1 := ⟨k - 1, by omega⟩
  have hs : wrap64 ((i : Int) + 1) = ((i + 1 : Nat) : Int) := by unfold wrap64; omega
  simp only [ob_.l2]
  rw [if_pos (by omega), if_pos (by omega)]
  simp only [gh_.f, Option.bind_some]
  rw [if_pos (by simp only [List.length_map, List.length_take]; omega), hs, zd_]
  have := ih (i + 1) k (by omega) (by omega)
  rwa [List.take_add_one, List.getElem?_eq_getElem (by omega), List.map_append, show (List.map (fun p => atI n p ((j + 1 : Nat) : Int)) (some (ps[i]'(by omega))).toList) = [atI n (ps.getD i 0) ((j + 1 : Nat) : Int)] from by rw [List.getD_eq_getElem?_getD, List.getElem?_eq_getElem (by omega)]; rfl] at this
theorem ue1_ (o ps : List Int) (h1 : 1 ≤ o.length) (hl : o.length ≤ 15) (hp : ag_ o.length ps) : aq_ o (matFill o ps 6) ps = true := by
 have h6 := hp.1
 unfold aq_
 simp only [Bool.and_eq_true, decide_eq_true_eq, List.all_eq_true, ff_]
 refine ⟨⟨⟨by trivial, h6, h1, hl⟩, fun x hx => ?_⟩, fun x hx => ?_⟩
 ·obtain ⟨i, hi, rfl⟩ := List.mem_iff_getElem.1 hx
  have := hp.2 i hi
  rw [List.getD_eq_getElem?_getD, List.getElem?_eq_getElem hi] at this
  exact this
 ·obtain ⟨i, hi, rfl⟩ := List.mem_iff_getElem.1 hx
  have hi6 : i < 6 := by rwa [ff_] at hi
  have hr := nk_ o ps 6 i hi6
  rw [List.getD_eq_getElem?_getD, List.getElem?_eq_getElem hi] at hr
  simp only [Option.getD_some] at hr
  rw [hr]
  refine ⟨by simp [rowF], fun y hy => ?_⟩
  rcases List.mem_append.1 hy with h | h
  ·obtain ⟨p, _, rfl⟩ := List.mem_map.1 h
   exact dw_ _ _ _
  ·rw [List.mem_singleton.1 h]; exact jg_ _
theorem tail_f (o ps : List Int) (h1 : 1 ≤ o.length) (hl : o.length ≤ 15) (hp : ag_ o.length ps) : cj_.f o (matFill o ps 6) ps = some (match gjI 6 (kg_ (matFill o ps 6)) ps.length with
  | none => ([], false)
  | some M => (tailTo ps M ps.length o, ve_ (tailTo ps M ps.length o))) := by
 unfold cj_.f
 rw [if_pos (ue1_ o ps h1 hl hp)]
 cases gjI 6 (kg_ (matFill o ps 6)) ps.length <;> rfl
theorem xc1_ (o ps : List Int) (h1 : 1 ≤ o.length) (hl : o.length ≤ 15) (hp : ag_ o.length ps) (he : ln_ o = true) : ∀ (d j k : Nat), j + d = 6 → d * 10 + 5 < k → ob_.l1 k ps (o.length : Int) o (matFill o ps j) ((j + 1 : Nat) : Int) = some (match gjI 6 (kg_ (matFill o ps 6)) ps.length with
  | none => ([], false)
  | some M => (tailTo ps M ps.length o, ve_ (tailTo ps M ps.length o))) := by
 intro d
 induction d with
 | zero =>
  intro j k hj hk
  obtain ⟨k, rfl⟩ : ∃ m, k = m + 1 := ⟨k - 1, by omega⟩
  obtain rfl : j = 6 := by omega
  simp only [ob_.l1]
  rw [if_neg (by omega), tail_f o ps h1 hl hp]
  simp only [Option.bind_some]
 | succ d ih =>
  intro j k hj hk
  obtain ⟨k, rfl⟩ : ∃ m, k = m + 1 := ⟨k - 1, by omega⟩
  have h6 := hp.1
  simp only [ob_.l1]
  rw [if_pos (by omega)]
  refine yc1_ o.length ps o (matFill o ps j) (ofG (psum o (j + 1) o.length)) j _ (d * 10 + 6) (by omega) (by rw [ff_]; omega) h6 ?_ (fun k hk => ih (j + 1) k (by omega) (by omega)) ps.length 0 k (by omega) (by omega)
  unfold bv_.f
  rw [if_pos ⟨he, by omega, by omega⟩]
  rfl
theorem wc1_ (l ps : List Int) (h1 : 1 ≤ l.length) (hl : l.length ≤ 15) (hp : ag_ l.length ps) (he : ln_ (zeroTo l ps ps.length) = true) : ∀ (d i k : Nat), i + d = ps.length → d + 70 < k → ob_.l0 k ps (l.length : Int) (zeroTo l ps i) (i : Int) = some (fillS l ps) := by
 intro d
 induction d with
 | zero =>
  intro i k hi hk
  obtain ⟨k, rfl⟩ : ∃ m, k = m + 1 := ⟨k - 1, by omega⟩
  obtain rfl : i = ps.length := by omega
  simp only [ob_.l0]
  rw [if_neg (by omega)]
  have := xc1_ (zeroTo l ps ps.length) ps (by rw [df_]; exact h1) (by rw [df_]; exact hl) (by rw [df_]; exact hp) he 6 0 k (by omega) (by omega)
  rw [df_] at this
  exact this
 | succ d ih =>
  intro i k hi hk
  obtain ⟨k, rfl⟩ : ∃ m, k = m + 1 := ⟨k - 1, by omega⟩
  obtain ⟨hp0, hp1⟩ := hp.2 i (by omega)
  have h6 := hp.1
  have hs : wrap64 ((i : Int) + 1) = ((i + 1 : Nat) : Int) := by unfold wrap64; omega
  simp only [ob_.l0]
  rw [if_pos (by omega), if_pos (by omega), zd_, if_pos hp0, if_pos (by rw [df_]; exact hp1), hs]
  exact ih (i + 1) k (by omega) (by omega)
theorem Fill_f (l ps : List Int) (h1 : 1 ≤ l.length) (hl : l.length ≤ 15) (hp : ag_ l.length ps) (he : ln_ (zeroTo l ps ps.length) = true) (k : Nat) (hk : 100 ≤ k) : ob_.f k l ps = some (fillS l ps) := by
 have h6 := hp.1
 unfold ob_.f si_.f
 rw [if_pos (by omega)]
 simp only [Option.bind_some]
 exact wc1_ l ps h1 hl hp he ps.length 0 k (by omega) (by omega)
theorem yo_ (l ps : List Int) (h1 : 1 ≤ l.length) (hl : l.length ≤ 15) (hp : ag_ l.length ps) (he : ln_ (zeroTo l ps ps.length) = true) : gl_.f l ps = some (fillS l ps) := Fill_f l ps h1 hl hp he 400 (by omega)
end
end Go.Proofs.Ytpkhgapifnjbeaa.G
end
section
namespace Go.Proofs.Ytpkhgapifnjbeaa.G
set_option linter.unusedVariables false
set_option linter.unusedSimpArgs false
open Go.RowKit Go.Proofs.Ytpkhgapifnjbeaa.Rs
def SolM (R n : Nat) (M : Nat → Nat → Int) (y : Nat → GF) : Prop := ∀ i, i < R → gsum n (fun k => toG (M i k) * y k) = toG (M i n)
def Indep (R n : Nat) (M : Nat → Nat → Int) : Prop := ∀ y : Nat → GF, (∀ i, i < R → gsum n (fun k => toG (M i k) * y k) = 0) → ∀ k, k < n → y k = 0
theorem gz_ {R n : Nat} {M : Nat → Nat → Int} (y : Nat → GF) : KerM R (n + 1) M (fun k => if k < n then y k else 1) ↔ SolM R n M y := by
 have e : ∀ i, gsum (n + 1) (fun k => toG (M i k) * (if k < n then y k else 1)) = gsum n (fun k => toG (M i k) * y k) + toG (M i n) := by
  intro i
  show gsum n _ + toG (M i n) * (if n < n then y n else 1) = _
  rw [if_neg (by omega), GF.mul_one]
  congr 1
  exact vd_ fun k hk => by rw [if_pos hk]
 refine ⟨fun h i hi => GF.bj_ (by rw [← e i]; exact h i hi), fun h i hi => by rw [e i, h i hi, GF.sg_]⟩
theorem oc1_ {R n : Nat} {M : Nat → Nat → Int} (h : IdM R n M) (y : Nat → GF) (i : Nat) (hi : i < R) : gsum n (fun k => toG (M i k) * y k) = if i < n then y i else 0 := by
 have hlow : ∀ k, k < n → toG (M i k) * y k = if i = k then y k else 0 := by
  intro k hk
  rw [h i k hi hk]
  unfold dl
  by_cases e1 : i = k
  ·rw [if_pos e1, if_pos e1, show toG 1 = 1 from rfl, GF.one_mul]
  ·rw [if_neg e1, if_neg e1, show toG 0 = 0 from rfl, GF.zero_mul]
 by_cases hin : i < n
 ·rw [if_pos hin, mk_ n _ i hin (fun k hk hne => by rw [hlow k hk, if_neg (fun q => hne q.symm)]), hlow i hin, if_pos rfl]
 ·rw [if_neg hin, vd_ (g := fun _ => 0) (fun k hk => by rw [hlow k hk, if_neg (by omega)]), dj_]
theorem op_ {R n : Nat} {M : Nat → Nat → Int} (he : ElM R (n + 1) M) (hi : Indep R n M) : ∃ M', gjI R M n = some M' ∧ ElM R (n + 1) M' ∧ IdM R n M' ∧ n ≤ R ∧ ∀ y, SolM R n M y ↔ ∀ i, i < R → (if i < n then y i else 0) = toG (M' i n) := by
 cases hg : gjI R M n with
 | none =>
  obtain ⟨x, ⟨k, hk, hk0⟩, hz, hK⟩ := td1_ he n (by omega) hg
  refine absurd (hi x (fun i hi => ?_) k hk) hk0
  have := hK i hi
  simp only [gsum] at this
  rwa [hz n (Nat.le_refl _), GF.mul_zero, GF.add_zero] at this
 | some M' =>
  obtain ⟨a1, a2, a3, a4⟩ := gj_ok he n M' (by omega) hg
  refine ⟨M', rfl, a1, a3, a4, fun y => ?_⟩
  rw [← gz_, ← a2, gz_]
  refine ⟨fun h i hi => ?_, fun h i hi => ?_⟩
  ·rw [← oc1_ a3 y i hi]; exact h i hi
  ·show gsum n _ = _
   rw [oc1_ a3 y i hi]; exact h i hi
theorem gj_at {R n : Nat} {M M' : Nat → Nat → Int} (he : ElM R (n + 1) M') {y : Nat → GF} (h : ∀ i, i < R → (if i < n then y i else 0) = toG (M' i n)) (k : Nat) (hk : k < n) (hR : n ≤ R) : M' k n = ofG (y k) := by
 have := h k (by omega)
 rw [if_pos hk] at this
 rw [this, vh_ ((xd_ _).1 (he k n (by omega) (by omega))).1 ((xd_ _).1 (he k n (by omega) (by omega))).2]
theorem dh_ (n k : Nat) (f : Nat → Int) (hk : k < n) : ((List.range n).map f).getD k 0 = f k := by
 rw [List.getD_eq_getElem?_getD, List.getElem?_map, List.getElem?_range hk]; rfl
theorem lr_ {R n : Nat} {M : Nat → Nat → Int} (he : ElM R (n + 1) M) (hi : Indep R n M) {y : Nat → GF} (hy : SolM R n M y) : (solR R n M).2 = true ∧ ∀ k, k < n → (solR R n M).1.getD k 0 = ofG (y k) := by
 obtain ⟨M', hg, a1, a3, a4, hs⟩ := op_ he hi
 have h := (hs y).1 hy
 have hz : ∀ i, n ≤ i → i < R → M' i n = 0 := fun i h1 h2 => by
  have := h i h2
  rw [if_neg (by omega)] at this
  exact (xi_ (a1 i n h2 (by omega))).1 this.symm
 rw [gn_ hg hz]
 exact ⟨rfl, fun k hk => by rw [dh_ n k _ hk]; exact gj_at (M := M) a1 h k hk a4⟩
theorem zb1_ {R n : Nat} {M : Nat → Nat → Int} (he : ElM R (n + 1) M) (hi : Indep R n M) (h2 : (solR R n M).2 = true) : SolM R n M (fun k => toG ((solR R n M).1.getD k 0)) ∧ ∀ k, k < n → isEl ((solR R n M).1.getD k 0) = true := by
 obtain ⟨M', hg, a1, a3, a4, hs⟩ := op_ he hi
 by_cases hz : ∀ i, n ≤ i → i < R → M' i n = 0
 ·rw [gn_ hg hz]
  refine ⟨(hs _).2 fun i hi => ?_, fun k hk => by rw [dh_ n k _ hk]; exact a1 k n (by omega) (by omega)⟩
  by_cases hin : i < n
  ·rw [if_pos hin]; simp only; rw [dh_ n i _ hin]
  ·rw [if_neg hin, hz i (by omega) hi]; rfl
 ·have : ∃ i, n ≤ i ∧ i < R ∧ M' i n ≠ 0 := Classical.byContradiction fun hh => hz fun i h1 h2 => Classical.byContradiction fun h3 => hh ⟨i, h1, h2, h3⟩
  obtain ⟨i, h3, h4, h5⟩ := this
  rw [jw_ hg h4 h3 h5] at h2
  cases h2
theorem kv_ {n : Nat} {M : Nat → Nat → Int} (he : ElM n (n + 1) M) (hi : Indep n n M) : (solR n n M).2 = true := by
 obtain ⟨M', hg, a1, a3, a4, hs⟩ := op_ he hi
 rw [gn_ hg (fun i h1 h2 => absurd h1 (by omega))]
theorem et_ (n : Nat) (f : Nat → GF) (p : Nat → Nat) : ∀ (m : Nat) (f : Nat → GF), (∀ k, k < m → p k < n) → (∀ i j, i < m → j < m → p i = p j → i = j) → (∀ i, i < n → (∀ k, k < m → p k ≠ i) → f i = 0) → gsum n f = gsum m (fun k => f (p k)) := by
 intro m
 induction m with
 | zero =>
  intro f _ _ hz
  show gsum n f = 0
  rw [vd_ (g := fun _ => 0) (fun i hi => hz i hi (fun k hk => by omega)), dj_]
 | succ m ih =>
  intro f hp hi hz
  obtain ⟨f1, hf1⟩ : ∃ f1 : Nat → GF, f1 = fun i => if i = p m then 0 else f i := ⟨_, rfl⟩
  obtain ⟨f2, hf2⟩ : ∃ f2 : Nat → GF, f2 = fun i => if i = p m then f i else 0 := ⟨_, rfl⟩
  have h1 := ih f1 (fun k hk => hp k (by omega)) (fun i j h1 h2 => hi i j (by omega) (by omega)) (fun i hin hk => by
   rw [hf1]; simp only
   by_cases e : i = p m
   ·rw [if_pos e]
   ·rw [if_neg e]
    refine hz i hin fun k hk' => ?_
    rcases Nat.lt_or_ge k m with h | h
    ·exact hk k h
    ·rw [show k = m from by omega]; exact fun q => e q.symm)
  have h2 : gsum n f2 = f (p m) := by
   rw [mk_ n f2 (p m) (hp m (by omega)) (fun i _ hne => by rw [hf2]; simp only; rw [if_neg hne])]
   rw [hf2]; simp
  have h3 : gsum n f = gsum n f1 + gsum n f2 := by
   rw [← uj_]
   refine vd_ fun i hin => ?_
   rw [hf1, hf2]; simp only
   by_cases e : i = p m
   ·rw [if_pos e, if_pos e, GF.zero_add]
   ·rw [if_neg e, if_neg e, GF.add_zero]
  rw [h3, h1, h2]
  show _ = gsum m _ + _
  congr 1
  refine vd_ fun k hk => ?_
  rw [hf1]; simp only
  rw [if_neg (fun e => by have := hi k m (by omega) (by omega) e; omega)]
def PS (ps : List Int) (k : Nat) : Nat := (ps.getD k 0).toNat
def XP (n : Nat) (ps : List Int) (k : Nat) : GF := GF.ex (n - 1 - PS ps k)
def gf_ (n : Nat) (ps : List Int) : Prop := ag_ n ps ∧ ∀ i j, i < ps.length → j < ps.length → PS ps i = PS ps j → i = j
theorem od1_ (a j : Nat) : GF.ex (j * a) = GF.pw (GF.ex a) j := by rw [Nat.mul_comm, GF.uy_]
theorem rv_ {n : Nat} (hn : n ≤ 100) {p : Int} (h0 : 0 ≤ p) (h1 : p < n) (j : Nat) (hj : j ≤ 100) : atI n p (j : Int) = ofG (GF.pw (GF.ex (n - 1 - p.toNat)) j) := by
 unfold atI powI
 have e1 : wrap64 ((n : Int) - 1) = ((n - 1 : Nat) : Int) := by unfold wrap64; omega
 have e2 : wrap64 (((n - 1 : Nat) : Int) - p) = ((n - 1 - p.toNat : Nat) : Int) := by unfold wrap64; omega
 have hb : j * (n - 1 - p.toNat) ≤ 100 * 100 := Nat.mul_le_mul hj (by omega)
 have e3 : wrap64 ((j : Int) * ((n - 1 - p.toNat : Nat) : Int)) = ((j * (n - 1 - p.toNat) : Nat) : Int) := by
  rw [← Int.natCast_mul]
  generalize j * (n - 1 - p.toNat) = q at hb
  unfold wrap64; omega
 rw [e1, e2, e3, ← od1_]
 congr 1
 rw [show (((j * (n - 1 - p.toNat) : Nat) : Int) % 31).toNat = (j * (n - 1 - p.toNat)) % 31 from by omega, ← GF.zs_]
section
variable {l c c' ps : List Int}
theorem gf_.lt (hp : gf_ l.length ps) {k : Nat} (hk : k < ps.length) : PS ps k < l.length := by
 have := hp.1.2 k hk
 unfold PS; omega
theorem qa1_ (n : Nat) (ps : List Int) (k : Nat) : XP n ps k ≠ 0 := GF.zq_ _
theorem pv_ (hn : l.length ≤ 15) (hp : gf_ l.length ps) : ∀ i j, i < ps.length → j < ps.length → XP l.length ps i = XP l.length ps j → i = j := by
 intro i j hi hj e
 have h1 := hp.lt hi
 have h2 := hp.lt hj
 have := GF.nc1_ (by omega) (by omega) e
 exact hp.2 i j hi hj (by omega)
structure hh_ (l ps c : List Int) : Prop where
 len : c.length = l.length
 agree : ∀ i, i < l.length → (∀ k, k < ps.length → PS ps k ≠ i) → c.getD i 0 = l.getD i 0
 els : ∀ k, k < ps.length → isEl (c.getD (PS ps k) 0) = true
 cw : ∀ j, j < 6 → psum c (j + 1) c.length = 0
theorem zm_ (hp : gf_ l.length ps) (hl : c.length = l.length) (ha : ∀ i, i < l.length → (∀ k, k < ps.length → PS ps k ≠ i) → c.getD i 0 = l.getD i 0) (j : Nat) :
  psum l j l.length + psum c j c.length = gsum ps.length (fun k => (vG (l.getD (PS ps k) 0) + vG (c.getD (PS ps k) 0)) * GF.pw (XP l.length ps k) j) := by
 unfold psum
 rw [hl, ← uj_]
 rw [vd_ (g := fun i => (vG (l.getD i 0) + vG (c.getD i 0)) * GF.pw (GF.ex (l.length - 1 - i)) j) (fun i hi => by rw [← GF.add_mul, od1_])]
 rw [et_ l.length (fun _ => 0) (PS ps) ps.length _ (fun k hk => hp.lt hk) hp.2 (fun i hi hk => by rw [ha i hi hk, GF.sg_, GF.zero_mul])]
 rfl
theorem ck_ (hn : l.length ≤ 15) (hp : gf_ l.length ps) : Indep 6 ps.length (kg_ (matFill l ps 6)) := by
 intro y hy
 have h6 := hp.1.1
 refine vand ps.length (XP l.length ps) y 1 (fun i _ => qa1_ _ _ _) (pv_ hn hp) fun j hj => ?_
 rw [← hy j (by omega)]
 refine vd_ fun k hk => ?_
 obtain ⟨h0, h1⟩ := hp.1.2 k hk
 rw [dk_ l ps h6 j k (by omega), if_pos hk, rv_ (by omega) h0 h1 (j + 1) (by omega), yf_, Nat.add_comm 1 j]
 exact GF.mul_comm _ _
theorem kw_ (hn : l.length ≤ 15) (hp : gf_ l.length ps) (y : Nat → GF) : SolM 6 ps.length (kg_ (matFill l ps 6)) y ↔ ∀ j, j < 6 → gsum ps.length (fun k => y k * GF.pw (XP l.length ps k) (j + 1)) = psum l (j + 1) l.length := by
 have h6 := hp.1.1
 have e : ∀ j, j < 6 → gsum ps.length (fun k => toG (kg_ (matFill l ps 6) j k) * y k) = gsum ps.length (fun k => y k * GF.pw (XP l.length ps k) (j + 1)) ∧ toG (kg_ (matFill l ps 6) j ps.length) = psum l (j + 1) l.length := by
  intro j hj
  refine ⟨vd_ fun k hk => ?_, ?_⟩
  ·obtain ⟨h0, h1⟩ := hp.1.2 k hk
   rw [dk_ l ps h6 j k hj, if_pos hk, rv_ (by omega) h0 h1 (j + 1) (by omega), yf_]
   exact GF.mul_comm _ _
  ·rw [dk_ l ps h6 j _ hj, if_neg (by omega), if_pos rfl, yf_]
 refine ⟨fun h j hj => ?_, fun h j hj => ?_⟩
 ·rw [← (e j hj).1, ← (e j hj).2]; exact h j hj
 ·rw [(e j hj).1, (e j hj).2]; exact h j hj
theorem hh_.sol (hn : l.length ≤ 15) (hp : gf_ l.length ps) (h : hh_ l ps c) : SolM 6 ps.length (kg_ (matFill l ps 6)) (fun k => vG (l.getD (PS ps k) 0) + vG (c.getD (PS ps k) 0)) := by
 rw [kw_ hn hp]
 intro j hj
 rw [← zm_ hp h.len h.agree, h.cw j hj, GF.add_zero]
theorem hh_.uniq (hn : l.length ≤ 15) (hp : gf_ l.length ps) (h : hh_ l ps c) (h' : hh_ l ps c') : c = c' := by
 have hy := ck_ hn hp (fun k => vG (c.getD (PS ps k) 0) + vG (c'.getD (PS ps k) 0)) (fun i hi => by
  have h6 := hp.1.1
  have e := zm_ (l := c) (c := c') (ps := ps) (by rw [h.len]; exact hp) (by rw [h.len, h'.len]) (fun i hi hk => by rw [h.agree i (by rw [← h.len]; exact hi) hk, h'.agree i (by rw [← h.len]; exact hi) hk]) (i + 1)
  rw [h.cw i hi, h'.cw i hi, GF.add_zero, h.len] at e
  rw [e]
  refine vd_ fun k hk => ?_
  obtain ⟨h0, h1⟩ := hp.1.2 k hk
  rw [dk_ l ps h6 i k hi, if_pos hk, rv_ (by omega) h0 h1 (i + 1) (by omega), yf_]
  exact GF.mul_comm _ _)
 apply List.ext_getElem (by rw [h.len, h'.len])
 intro i h1 h2
 have e : c.getD i 0 = c'.getD i 0 := by
  by_cases hk : ∃ k, k < ps.length ∧ PS ps k = i
  ·obtain ⟨k, hk, rfl⟩ := hk
   have := GF.bj_ (hy k hk)
   rw [← co_ (h.els k hk), this, co_ (h'.els k hk)]
  ·have hk' : ∀ k, k < ps.length → PS ps k ≠ i := fun k hk1 e => hk ⟨k, hk1, e⟩
   rw [h.agree i (by rw [← h.len]; exact h1) hk', h'.agree i (by rw [← h.len]; exact h1) hk']
 rwa [List.getD_eq_getElem?_getD, List.getD_eq_getElem?_getD, List.getElem?_eq_getElem h1, List.getElem?_eq_getElem h2] at e
end
end Go.Proofs.Ytpkhgapifnjbeaa.G
end
section
namespace Go.Proofs.Ytpkhgapifnjbeaa.G
set_option linter.unusedVariables false
set_option linter.unusedSimpArgs false
open Go.RowKit Go.Proofs.YtpkhgapifnjbeaaW.PrintWords Go.Proofs.YtpkhgapifnjbeaaW.PrintLast Go.Proofs.YtpkhgapifnjbeaaW.PrintMore Go.Proofs.Ytpkhgapifnjbeaa.Rs
def setsTo (l ps : List Int) (v : Nat → Int) : Nat → List Int
 | 0 => l
 | i + 1 => (setsTo l ps v i).set (PS ps i) (v i)
theorem ug_ (l ps : List Int) (v : Nat → Int) (i : Nat) : (setsTo l ps v i).length = l.length := by
 induction i with
 | zero => rfl
 | succ i ih => simp only [setsTo, List.length_set, ih]
theorem dr_ (l ps ys : List Int) (i : Nat) : ot_ l ps ys i = setsTo l ps (fun k => xorI (mx (l.getD (PS ps k) 0) 0) (ys.getD k 0)) i := by
 induction i with
 | zero => rfl
 | succ i ih => simp only [ot_, setsTo, ih]; rfl
theorem bq_ (o ps : List Int) (M : Nat → Nat → Int) (i : Nat) : tailTo ps M i o = setsTo o ps (fun k => M k ps.length) i := by
 induction i with
 | zero => rfl
 | succ i ih => simp only [tailTo, setsTo, ih, zd_]; rfl
theorem tk_ (l ps : List Int) (i : Nat) : zeroTo l ps i = setsTo l ps (fun _ => 0) i := by
 induction i with
 | zero => rfl
 | succ i ih => simp only [zeroTo, setsTo, ih]; rfl
theorem ig_ (l : List Int) (i j : Nat) (x : Int) : (l.set i x).getD j 0 = if i = j ∧ i < l.length then x else l.getD j 0 := by
 rw [List.getD_eq_getElem?_getD, List.getElem?_set, List.getD_eq_getElem?_getD]
 by_cases e : i = j
 ·subst e
  by_cases h : i < l.length
  ·simp [h]
  ·simp [h]
 ·simp [e]
theorem wi_ (l ps : List Int) (v : Nat → Int) (i : Nat) : ∀ m, (∀ k, k < m → PS ps k ≠ i) → (setsTo l ps v m).getD i 0 = l.getD i 0 := by
 intro m
 induction m with
 | zero => intro _; rfl
 | succ m ih =>
  intro h
  simp only [setsTo]
  rw [ig_, if_neg (fun q => h m (by omega) q.1), ih (fun k hk => h k (by omega))]
theorem oj_ {l ps : List Int} (hp : gf_ l.length ps) (v : Nat → Int) : ∀ m k, m ≤ ps.length → k < m → (setsTo l ps v m).getD (PS ps k) 0 = v k := by
 intro m
 induction m with
 | zero => intro k _ hk; omega
 | succ m ih =>
  intro k hm hk
  simp only [setsTo]
  rw [ig_, ug_]
  by_cases e : k = m
  ·subst e
   rw [if_pos ⟨rfl, hp.lt (by omega)⟩]
  ·rw [if_neg (fun q => e (hp.2 m k (by omega) (by omega) q.1).symm)]
   exact ih k (by omega) (by omega)
theorem mx_vG {x : Int} (h : -1 ≤ x ∧ x ≤ 31) : mx x 0 = ofG (vG x) := by
 unfold mx
 by_cases h0 : x < 0
 ·rw [if_pos h0]
  unfold vG
  rw [if_neg (by simp [isEl]; omega)]; rfl
 ·rw [if_neg h0, co_ (by simp [isEl]; omega)]
section
variable {l c ps : List Int}
theorem mu_ (hn : l.length ≤ 15) (hp : gf_ l.length ps) (hw : ∀ k, k < ps.length → -1 ≤ l.getD (PS ps k) 0 ∧ l.getD (PS ps k) 0 ≤ 31) (h : hh_ l ps c) : vm_ l ps = c := by
 have h6 := hp.1.1
 obtain ⟨h2, hy⟩ := lr_ (bs_ l ps h6) (ck_ hn hp) (h.sol hn hp)
 unfold vm_
 rw [if_pos h2, dr_]
 apply List.ext_getElem (by rw [ug_, h.len])
 intro i h1 h3
 have e : (setsTo l ps (fun k => xorI (mx (l.getD (PS ps k) 0) 0) ((solR 6 ps.length (kg_ (matFill l ps 6))).1.getD k 0)) ps.length).getD i 0 = c.getD i 0 := by
  by_cases hk : ∃ k, k < ps.length ∧ PS ps k = i
  ·obtain ⟨k, hk, rfl⟩ := hk
   rw [oj_ hp _ _ _ (Nat.le_refl _) hk, hy k hk, mx_vG (hw k hk), zj_]
   rw [← GF.add_assoc, GF.sg_, GF.zero_add, co_ (h.els k hk)]
  ·have hk' : ∀ k, k < ps.length → PS ps k ≠ i := fun k hk1 e => hk ⟨k, hk1, e⟩
   rw [wi_ _ _ _ _ _ hk', h.agree i (by rw [ug_] at h1; exact h1) hk']
 rwa [List.getD_eq_getElem?_getD, List.getD_eq_getElem?_getD, List.getElem?_eq_getElem h1, List.getElem?_eq_getElem h3] at e
theorem zv_ (hn : l.length ≤ 15) (hp : gf_ l.length ps) (hw : ∀ k, k < ps.length → -1 ≤ l.getD (PS ps k) 0 ∧ l.getD (PS ps k) 0 ≤ 31) : vm_ l ps = [] ∨ hh_ l ps (vm_ l ps) := by
 have h6 := hp.1.1
 unfold vm_
 by_cases h2 : (solR 6 ps.length (kg_ (matFill l ps 6))).2 = true
 ·rw [if_pos h2]
  refine .inr ?_
  obtain ⟨hs, hel⟩ := zb1_ (bs_ l ps h6) (ck_ hn hp) h2
  rw [kw_ hn hp] at hs
  rw [dr_]
  obtain ⟨ys, hys⟩ : ∃ ys, ys = (solR 6 ps.length (kg_ (matFill l ps 6))).1 := ⟨_, rfl⟩
  rw [← hys] at hs hel ⊢
  have hv : ∀ k, k < ps.length → xorI (mx (l.getD (PS ps k) 0) 0) (ys.getD k 0) = ofG (vG (l.getD (PS ps k) 0) + toG (ys.getD k 0)) := by
   intro k hk
   rw [mx_vG (hw k hk), ← zj_, vh_ ((xd_ _).1 (hel k hk)).1 ((xd_ _).1 (hel k hk)).2]
  have hag : ∀ i, i < l.length → (∀ k, k < ps.length → PS ps k ≠ i) → (setsTo l ps (fun k => xorI (mx (l.getD (PS ps k) 0) 0) (ys.getD k 0)) ps.length).getD i 0 = l.getD i 0 := fun i hi hk => wi_ _ _ _ _ _ hk
  refine ⟨ug_ _ _ _ _, hag, fun k hk => ?_, fun j hj => ?_⟩
  ·rw [oj_ hp _ _ _ (Nat.le_refl _) hk, hv k hk]; exact jg_ _
  ·have e := zm_ (c := setsTo l ps (fun k => xorI (mx (l.getD (PS ps k) 0) 0) (ys.getD k 0)) ps.length) hp (ug_ _ _ _ _) hag (j + 1)
   rw [← hs j hj] at e
   have e2 : gsum ps.length (fun k => (vG (l.getD (PS ps k) 0) + vG ((setsTo l ps (fun k => xorI (mx (l.getD (PS ps k) 0) 0) (ys.getD k 0)) ps.length).getD (PS ps k) 0)) * GF.pw (XP l.length ps k) (j + 1)) = gsum ps.length (fun k => toG (ys.getD k 0) * GF.pw (XP l.length ps k) (j + 1)) := by
    refine vd_ fun k hk => ?_
    rw [oj_ hp _ _ _ (Nat.le_refl _) hk, hv k hk, uc1_, ← GF.add_assoc, GF.sg_, GF.zero_add]
   rw [e2] at e
   have := congrArg (fun q => gsum ps.length (fun k => toG (ys.getD k 0) * GF.pw (XP l.length ps k) (j + 1)) + q) e
   simp only [GF.sg_] at this
   rwa [← GF.add_assoc, GF.sg_, GF.zero_add] at this
 ·rw [if_neg h2]; exact .inl rfl
theorem hh_.zero (hp : gf_ l.length ps) : hh_ (zeroTo l ps ps.length) ps c ↔ hh_ l ps c := by
 have hoff : ∀ i, (∀ k, k < ps.length → PS ps k ≠ i) → (zeroTo l ps ps.length).getD i 0 = l.getD i 0 := fun i hk => by rw [tk_]; exact wi_ _ _ _ _ _ hk
 refine ⟨fun h => ⟨by rw [h.len, df_], fun i hi hk => by rw [h.agree i (by rw [df_]; exact hi) hk, hoff i hk], h.els, h.cw⟩, fun h => ⟨by rw [h.len, df_], fun i hi hk => by rw [df_] at hi; rw [h.agree i hi hk, hoff i hk], h.els, h.cw⟩⟩
theorem ye_ (h : ve_ c = true) : isWord c 0 = true ∧ ∀ j, j < 6 → psum c (j + 1) c.length = 0 := by
 unfold ve_ at h
 simp only [Bool.and_eq_true, List.all_eq_true, decide_eq_true_eq] at h
 exact ⟨h.1, fun j hj => h.2 j (List.mem_range.2 hj)⟩
theorem gu_ (h1 : isWord c 0 = true) (h2 : ∀ j, j < 6 → psum c (j + 1) c.length = 0) : ve_ c = true := by
 unfold ve_
 simp only [Bool.and_eq_true, List.all_eq_true, decide_eq_true_eq]
 exact ⟨h1, fun j hj => h2 j (List.mem_range.1 hj)⟩
theorem hm_ (hn : l.length ≤ 15) (hp : gf_ l.length ps) (h : hh_ l ps c) : fillS l ps = (c, ve_ c) := by
 have h6 := hp.1.1
 have hz := (hh_.zero hp).2 h
 have hzl := df_ l ps ps.length
 have hp' : gf_ (zeroTo l ps ps.length).length ps := by rw [hzl]; exact hp
 have hn' : (zeroTo l ps ps.length).length ≤ 15 := by rw [hzl]; exact hn
 obtain ⟨M', hg, a1, a3, a4, hs⟩ := op_ (bs_ (zeroTo l ps ps.length) ps h6) (ck_ hn' hp')
 have hM := (hs _).1 (hz.sol hn' hp')
 unfold fillS
 rw [hg]
 have e : tailTo ps M' ps.length (zeroTo l ps ps.length) = c := by
  rw [bq_]
  apply List.ext_getElem (by rw [ug_, hzl, h.len])
  intro i h1 h3
  have e : (setsTo (zeroTo l ps ps.length) ps (fun k => M' k ps.length) ps.length).getD i 0 = c.getD i 0 := by
   by_cases hk : ∃ k, k < ps.length ∧ PS ps k = i
   ·obtain ⟨k, hk, rfl⟩ := hk
    rw [oj_ hp' _ _ _ (Nat.le_refl _) hk, gj_at (M := kg_ (matFill (zeroTo l ps ps.length) ps 6)) a1 hM k hk a4]
    rw [tk_, oj_ hp _ _ _ (Nat.le_refl _) hk, show vG 0 = 0 from rfl, GF.zero_add, co_ (h.els k hk)]
   ·have hk' : ∀ k, k < ps.length → PS ps k ≠ i := fun k hk1 e => hk ⟨k, hk1, e⟩
    rw [wi_ _ _ _ _ _ hk', hz.agree i (by rw [ug_] at h1; exact h1) hk']
  rwa [List.getD_eq_getElem?_getD, List.getD_eq_getElem?_getD, List.getElem?_eq_getElem h1, List.getElem?_eq_getElem h3] at e
 simp only [e]
theorem aw_ (hn : l.length ≤ 15) (hp : gf_ l.length ps) (h : (fillS l ps).2 = true) : hh_ l ps (fillS l ps).1 ∧ ve_ (fillS l ps).1 = true := by
 have h6 := hp.1.1
 have hzl := df_ l ps ps.length
 have hp' : gf_ (zeroTo l ps ps.length).length ps := by rw [hzl]; exact hp
 unfold fillS at h ⊢
 cases hg : gjI 6 (kg_ (matFill (zeroTo l ps ps.length) ps 6)) ps.length with
 | none => rw [hg] at h; cases h
 | some M' =>
  rw [hg] at h
  simp only at h ⊢
  refine ⟨(hh_.zero hp).1 ?_, h⟩
  obtain ⟨c1, c2⟩ := ye_ h
  obtain ⟨e1, e2, e3⟩ := eq_ c1
  refine ⟨by rw [ij_], fun i hi hk => by rw [bq_]; exact wi_ _ _ _ _ _ hk, fun k hk => sr_ e1 _ (by rw [ij_]; exact hp'.lt hk), c2⟩
end
end Go.Proofs.Ytpkhgapifnjbeaa.G
end
section
namespace Go.Proofs.Ytpkhgapifnjbeaa.E
open Go.RowKit Go.Proofs.Ytpkhgapifnjbeaa.G Go.Proofs.Ytpkhgapifnjbeaa.Rs Go.Proofs.YtpkhgapifnjbeaaW.PrintWords Go.Proofs.YtpkhgapifnjbeaaW.PrintLast Go.Proofs.YtpkhgapifnjbeaaW.PrintMore
attribute [local go_sem] dd_ fd_ rd_ sd_ uc_ vc_ ed_ gd_
set_option linter.unusedVariables false
set_option linter.unusedSimpArgs false
def errW : Option Int → Value
 | none => .nilIface
 | some c => .iface 0 (.int .i64 c)
theorem bb_ : errW none = .nilIface := rfl
theorem cb_ (c : Int) : errW (some c) = .iface 0 (.int .i64 c) := rfl
theorem te_ : (Try.prog.info? 3).map (fun i => (i.zero, i.size, i.bytes)) = some (some (.int .i64 0), 1, 8) := by kernel_rfl
def re_ (xs : List (List Int)) (i : Int) : (List Int) := xs.getD i.toNat ([] : List Int)
theorem yk_ {w : World} {A : Option Addr} {n : Nat} {xs : List (List Int)} (h : Kd.C (Kd.slice 3 (Kd.int .i64)) w A n xs) (i : Int) (h0 : 0 ≤ i) (h1 : i < n) : ∃ ad A0 c0, A = some ad ∧ w.cell? (ad.add i.toNat) = some (.slice A0 (re_ xs i).length c0) ∧ (re_ xs i).length ≤ c0 ∧ (Kd.int .i64).C w A0 (re_ xs i).length (re_ xs i) := by
 obtain ⟨ad, c, e, _, hK, hc0⟩ := Kd.ai_ h ([] : List Int) i h0 h1
 have hc : ∀ j u, c[j]? = some u → w.cell? (ad.add (i.toNat * 1 + j)) = some u := hc0
 obtain ⟨A0, c0, rfl, l0, g0⟩ := hK
 exact ⟨ad, A0, c0, e, by have hq := hc 0 _ rfl; rwa [Nat.mul_one, Nat.add_zero] at hq, l0, g0⟩
def hj_ (xs : List (List Int)) (i : Int) : (List Int) := xs.getD i.toNat ([] : List Int)
theorem ta1_ {w : World} {A : Option Addr} {n : Nat} {xs : List (List Int)} (h : Kd.C (Kd.slice 58 (Kd.int .i64)) w A n xs) (i : Int) (h0 : 0 ≤ i) (h1 : i < n) : ∃ ad A0 c0, A = some ad ∧ w.cell? (ad.add i.toNat) = some (.slice A0 (hj_ xs i).length c0) ∧ (hj_ xs i).length ≤ c0 ∧ (Kd.int .i64).C w A0 (hj_ xs i).length (hj_ xs i) := by
 obtain ⟨ad, c, e, _, hK, hc0⟩ := Kd.ai_ h ([] : List Int) i h0 h1
 have hc : ∀ j u, c[j]? = some u → w.cell? (ad.add (i.toNat * 1 + j)) = some u := hc0
 obtain ⟨A0, c0, rfl, l0, g0⟩ := hK
 exact ⟨ad, A0, c0, e, by have hq := hc 0 _ rfl; rwa [Nat.mul_one, Nat.add_zero] at hq, l0, g0⟩
def qk_ (xs : List (List Int)) (i : Int) : (List Int) := xs.getD i.toNat ([] : List Int)
theorem id1_ {w : World} {A : Option Addr} {n : Nat} {xs : List (List Int)} (h : Kd.C (Kd.slice 57 (Kd.int .i64)) w A n xs) (i : Int) (h0 : 0 ≤ i) (h1 : i < n) : ∃ ad A0 c0, A = some ad ∧ w.cell? (ad.add i.toNat) = some (.slice A0 (qk_ xs i).length c0) ∧ (qk_ xs i).length ≤ c0 ∧ (Kd.int .i64).C w A0 (qk_ xs i).length (qk_ xs i) := by
 obtain ⟨ad, c, e, _, hK, hc0⟩ := Kd.ai_ h ([] : List Int) i h0 h1
 have hc : ∀ j u, c[j]? = some u → w.cell? (ad.add (i.toNat * 1 + j)) = some u := hc0
 obtain ⟨A0, c0, rfl, l0, g0⟩ := hK
 exact ⟨ad, A0, c0, e, by have hq := hc 0 _ rfl; rwa [Nat.mul_one, Nat.add_zero] at hq, l0, g0⟩
def ms_ (xs : List (List (List Int))) (i : Int) : (List (List Int)) := xs.getD i.toNat ([] : List (List Int))
theorem at_L5 {w : World} {A : Option Addr} {n : Nat} {xs : List (List (List Int))} (h : Kd.C (Kd.slice 69 (Kd.slice 57 (Kd.int .i64))) w A n xs) (i : Int) (h0 : 0 ≤ i) (h1 : i < n) : ∃ ad A0 c0, A = some ad ∧ w.cell? (ad.add i.toNat) = some (.slice A0 (ms_ xs i).length c0) ∧ (ms_ xs i).length ≤ c0 ∧ (Kd.slice 57 (Kd.int .i64)).C w A0 (ms_ xs i).length (ms_ xs i) := by
 obtain ⟨ad, c, e, _, hK, hc0⟩ := Kd.ai_ h ([] : List (List Int)) i h0 h1
 have hc : ∀ j u, c[j]? = some u → w.cell? (ad.add (i.toNat * 1 + j)) = some u := hc0
 obtain ⟨A0, c0, rfl, l0, g0⟩ := hK
 exact ⟨ad, A0, c0, e, by have hq := hc 0 _ rfl; rwa [Nat.mul_one, Nat.add_zero] at hq, l0, g0⟩
end Go.Proofs.Ytpkhgapifnjbeaa.E
end
section
namespace Go.Proofs.Ytpkhgapifnjbeaa.E
open Go.RowKit Go.Proofs.Ytpkhgapifnjbeaa.G Go.Proofs.Ytpkhgapifnjbeaa.Rs Go.Proofs.YtpkhgapifnjbeaaW.PrintWords Go.Proofs.YtpkhgapifnjbeaaW.PrintLast Go.Proofs.YtpkhgapifnjbeaaW.PrintMore
attribute [local go_sem] dd_ fd_ rd_ sd_ uc_ vc_ ed_ gd_
set_option linter.unusedVariables false
set_option linter.unusedSimpArgs false
def if_.f (a0 : Int) (a1 : Int) : Option (Int × Int) := some (((IntKind.u64.wrap ((IntKind.u64.wrap (a0)) * (IntKind.u64.wrap (a1)))) / 4294967296) % 4294967296, (IntKind.u64.wrap ((IntKind.u64.wrap (a0)) * (IntKind.u64.wrap (a1)))) % 4294967296)
set_option maxHeartbeats 8000000 in
set_option maxRecDepth 100000 in
theorem if_.calls (a0 : Int) (a1 : Int) (r1 : Int) (r2 : Int) (w : World) (h : if_.f a0 a1 = some (r1, r2)) :
  Calls Try.prog 67 #[.int .u32 a0, .int .u32 a1] w fun e w' => e = .returned (.tuple #[.int .u32 r1, .int .u32 r2]) ∧ ra_ w w' := by
 have H : (some (((IntKind.u64.wrap ((IntKind.u64.wrap (a0)) * (IntKind.u64.wrap (a1)))) / 4294967296) % 4294967296, (IntKind.u64.wrap ((IntKind.u64.wrap (a0)) * (IntKind.u64.wrap (a1)))) % 4294967296)) = some (r1, r2) := h
 clear h
 simp only [Option.some.injEq, Prod.mk.injEq] at H
 obtain ⟨rfl, rfl⟩ := H
 go_enter Try.func67, Try.ntmps67
 go_wp2
 go_ret2
 exact ⟨by first | rfl | (simp; done) | (simp [*]; done), by repeat (first | exact ra_.refl _ | apply ra_.step)⟩
def be_.f (a0 : Int) (a1 : Int) : Option (Int × Int) := some (IntKind.u64.wrap ((IntKind.u64.wrap ((IntKind.u64.wrap ((a0 / 4294967296) * (a1 / 4294967296))) + ((IntKind.u64.wrap ((IntKind.u64.wrap ((a0 / 4294967296) * (Go.bits .and .u64 a1 4294967295))) + ((IntKind.u64.wrap ((Go.bits .and .u64 a0 4294967295) * (Go.bits .and .u64 a1 4294967295))) / 4294967296))) / 4294967296))) + ((IntKind.u64.wrap ((Go.bits .and .u64 (IntKind.u64.wrap ((IntKind.u64.wrap ((a0 / 4294967296) * (Go.bits .and .u64 a1 4294967295))) + ((IntKind.u64.wrap ((Go.bits .and .u64 a0 4294967295) * (Go.bits .and .u64 a1 4294967295))) / 4294967296))) 4294967295) + (IntKind.u64.wrap ((Go.bits .and .u64 a0 4294967295) * (a1 / 4294967296))))) / 4294967296)), IntKind.u64.wrap (a0 * a1))
set_option maxHeartbeats 8000000 in
set_option maxRecDepth 100000 in
theorem be_.calls (a0 : Int) (a1 : Int) (r1 : Int) (r2 : Int) (w : World) (h : be_.f a0 a1 = some (r1, r2)) :
  Calls Try.prog 68 #[.int .u64 a0, .int .u64 a1] w fun e w' => e = .returned (.tuple #[.int .u64 r1, .int .u64 r2]) ∧ ra_ w w' := by
 have H : (some (IntKind.u64.wrap ((IntKind.u64.wrap ((IntKind.u64.wrap ((a0 / 4294967296) * (a1 / 4294967296))) + ((IntKind.u64.wrap ((IntKind.u64.wrap ((a0 / 4294967296) * (Go.bits .and .u64 a1 4294967295))) + ((IntKind.u64.wrap ((Go.bits .and .u64 a0 4294967295) * (Go.bits .and .u64 a1 4294967295))) / 4294967296))) / 4294967296))) + ((IntKind.u64.wrap ((Go.bits .and .u64 (IntKind.u64.wrap ((IntKind.u64.wrap ((a0 / 4294967296) * (Go.bits .and .u64 a1 4294967295))) + ((IntKind.u64.wrap ((Go.bits .and .u64 a0 4294967295) * (Go.bits .and .u64 a1 4294967295))) / 4294967296))) 4294967295) + (IntKind.u64.wrap ((Go.bits .and .u64 a0 4294967295) * (a1 / 4294967296))))) / 4294967296)), IntKind.u64.wrap (a0 * a1))) = some (r1, r2) := h
 clear h
 simp only [Option.some.injEq, Prod.mk.injEq] at H
 obtain ⟨rfl, rfl⟩ := H
 go_enter Try.func68, Try.ntmps68
 go_wp2
 go_ret2
 exact ⟨by first | rfl | (simp; done) | (simp [*]; done), by repeat (first | exact ra_.refl _ | apply ra_.step)⟩
def zf_.f (a0 : Int) (a1 : Int) : Option (Int × Int) := (be_.f a0 a1).bind fun bt101 => (some (bt101.1, bt101.2))
set_option maxHeartbeats 8000000 in
set_option maxRecDepth 100000 in
theorem zf_.calls (a0 : Int) (a1 : Int) (r1 : Int) (r2 : Int) (w : World) (h : zf_.f a0 a1 = some (r1, r2)) :
  Calls Try.prog 58 #[.int .u64 a0, .int .u64 a1] w fun e w' => e = .returned (.tuple #[.int .u64 r1, .int .u64 r2]) ∧ ra_ w w' := by
 have H : ((be_.f a0 a1).bind fun bt101 => (some (bt101.1, bt101.2))) = some (r1, r2) := h
 clear h
 replace H := Option.bind_eq_some_iff.mp H
 obtain ⟨⟨t101, t102⟩, A30, H⟩ := H
 replace H : (some (t101, t102)) = some (r1, r2) := H
 have A3 := ba_.mk A30
 clear A30
 simp only [Option.some.injEq, Prod.mk.injEq] at H
 obtain ⟨rfl, rfl⟩ := H
 go_enter Try.func58, Try.ntmps58
 go_wp2_with (first | ((with_reducible refine ua_ (f := 68) rfl ?_); refine hc_ (some 25) rfl rfl Try.func68 (by kernel_rfl) rfl #[.int .u64 a0, .int .u64 a1] rfl (by (try simp only [List.map_toArray, List.map_cons, List.map_nil]); first | done | rfl | (simp only [List.length_drop, List.length_take]; rfl)) ?_; (with_reducible refine (be_.calls a0 a1 t101 t102 _ A3.out).mono ?_); rintro e w' ⟨rfl, ⟨nd, rfl⟩⟩; refine ⟨_, rfl, ?_⟩))
 go_ret2
 exact ⟨by first | rfl | (simp; done) | (simp [*]; done), by repeat (first | exact ra_.refl _ | apply ra_.step)⟩
def ad_.l0 : Nat → List Int → Int → Int → Int → Option (Int)
 | 0, _, _, _, _ => none
 | k + 1, x0, x1, x7, x8 => if x8 < x7 then (if 0 ≤ x8 then (if x8 < (x0.length : Int) then (if x1 = (rd x0 x8) then (some x8) else (ad_.l0 k x0 x1 x7 (wrap64 (x8 + 1)))) else (none)) else (none)) else (some (-1))
def ad_.f (k : Nat) (l0 : List Int) (a1 : Int) : Option (Int) := ad_.l0 k l0 a1 (l0.length : Int) 0
theorem ad_.xc_ : ∀ k, (∀ y0 y1 y2 y3, LeO (ad_.l0 k y0 y1 y2 y3) (ad_.l0 (k + 1) y0 y1 y2 y3))
 | 0 => fun _ _ _ _ r h => by simp [ad_.l0] at h
 | k + 1 => by
  have ih0 := ad_.xc_ k
  ·intro y0 y1 y2 y3
   unfold ad_.l0
   repeat' first
   | (with_reducible exact ih0 _ _ _ _)
   | (with_reducible exact LeO.refl _)
   | (with_reducible exact LeO.none _)
   | (with_reducible refine LeO.ite ?_ ?_)
   | (with_reducible refine LeO.bind ?_ (fun _ => ?_))
   | exact ih0 _ _ _ _
   | exact LeO.none _
   | refine LeO.ite ?_ ?_
   | refine LeO.bind ?_ (fun _ => ?_)
theorem ad_.mono : ∀ a0 a1 k, LeO (ad_.f k a0 a1) (ad_.f (k + 1) a0 a1) := by
 intro a0 a1 k
 have ih0 := ad_.xc_ k
 unfold ad_.f
 repeat' first
   | (with_reducible exact ih0 _ _ _ _)
   | (with_reducible exact LeO.refl _)
   | (with_reducible exact LeO.none _)
   | (with_reducible refine LeO.ite ?_ ?_)
   | (with_reducible refine LeO.bind ?_ (fun _ => ?_))
   | exact ih0 _ _ _ _
   | exact LeO.none _
   | refine LeO.ite ?_ ?_
   | refine LeO.bind ?_ (fun _ => ?_)
set_option maxHeartbeats 8000000 in
set_option maxRecDepth 100000 in
theorem ad_.calls (k : Nat) (A0 : Option Addr) (c0 : Nat) (l0 : List Int) (a1 : Int) (r : Int) (w : World) (hr0 : Kd.C (Kd.int .i64) w A0 l0.length l0) (hc0 : l0.length ≤ c0) (h : ad_.f k l0 a1 = some r) :
  Calls Try.prog 61 #[.slice A0 l0.length c0, .int .i64 a1] w fun e w' => e = .returned (.int .i64 r) ∧ ra_ w w' := by
 have HR0 := ba_.mk hr0
 have HC0 := ba_.mk hc0
 clear hr0 hc0
 have H : (ad_.l0 k l0 a1 (l0.length : Int) 0) = some r := h
 clear h
 have H' := ba_.mk H
 clear H
 go_enter Try.func61, Try.ntmps61
 go_wp2
 go_loopg [8] k (fun kq v8 w' => ∃ (x8_1 : Int), v8 = .int .i64 x8_1 ∧ ba_ (ad_.l0 kq l0 a1 (l0.length : Int) x8_1 = some r) ∧ ba_ (kq ≤ k) ∧ ra_ w w')
 case atStart => exact ⟨(0), (by first | rfl | (simp; done) | (simp [*]; done)), H', ⟨Nat.le_refl _⟩, by repeat (first | exact ra_.refl _ | apply ra_.step)⟩
 case round =>
  clear H'
  try clear p2
  obtain ⟨x8_1, rfl, HA, HK1, ⟨m1, rfl⟩⟩ := hrel
  cases gk with
  | zero => exact absurd HA.out (by simp [ad_.l0])
  | succ k1 =>
   have H := HA.out
   clear HA
   simp only [ad_.l0] at H
   by_cases c3 : x8_1 < (l0.length : Int)
   ·rw [if_pos c3] at H
    have c3b0 : decide (x8_1 < (l0.length : Int)) = true := decide_eq_true c3
    clear c3
    by_cases c4 : 0 ≤ x8_1
    ·rw [if_pos c4] at H
     have c4b0 : decide (0 ≤ x8_1) = true := decide_eq_true c4
     clear c4
     by_cases c5 : x8_1 < (l0.length : Int)
     ·rw [if_pos c5] at H
      have c5b0 : decide (x8_1 < (l0.length : Int)) = true := decide_eq_true c5
      clear c5
      by_cases c6 : a1 = (rd l0 x8_1)
      ·rw [if_pos c6] at H
       have c6b0 : (a1 == (rd l0 x8_1)) = true := beq_iff_eq.mpr c6
       have c6b1 : (a1 != (rd l0 x8_1)) = false := bne_eq_false_iff_eq.mpr c6
       clear c6
       obtain rfl := Option.some.inj H
       have p104 : 0 ≤ (x8_1 : Int) := of_decide_eq_true (by first | (with_reducible assumption) | assumption)
       have q104 : x8_1 < (l0.length : Int) := of_decide_eq_true (by first | (with_reducible assumption) | assumption)
       obtain ⟨ad104, e104, hx104_0⟩ := Kd.nd_ HR0.out x8_1 p104 q104
       cases e104
       replace p104 := eq_true p104
       replace q104 := eq_true q104
       go_wp2
       go_ret
       exact ⟨by first | rfl | (simp; done) | (simp [*]; done), by repeat (first | exact ra_.refl _ | apply ra_.step)⟩
      ·rw [if_neg c6] at H
       have c6b0 : (a1 == (rd l0 x8_1)) = false := beq_eq_false_iff_ne.mpr c6
       have c6b1 : (a1 != (rd l0 x8_1)) = true := bne_iff_ne.mpr c6
       have H' := ba_.mk H
       clear H
       have p104 : 0 ≤ (x8_1 : Int) := of_decide_eq_true (by first | (with_reducible assumption) | assumption)
       have q104 : x8_1 < (l0.length : Int) := of_decide_eq_true (by first | (with_reducible assumption) | assumption)
       obtain ⟨ad104, e104, hx104_0⟩ := Kd.nd_ HR0.out x8_1 p104 q104
       cases e104
       replace p104 := eq_true p104
       replace q104 := eq_true q104
       go_wp2
       go_roundg k1
       case measure => have := HK1.out; omega
       case rel => exact ⟨(wrap64 (x8_1 + 1)), (by first | rfl | (simp; done) | (simp [*]; done)), H', ⟨by have := HK1.out; omega⟩, by repeat (first | exact ra_.refl _ | apply ra_.step)⟩
     ·rw [if_neg c5] at H
      exact absurd H (by simp)
    ·rw [if_neg c4] at H
     exact absurd H (by simp)
   ·rw [if_neg c3] at H
    have c3b0 : decide (x8_1 < (l0.length : Int)) = false := decide_eq_false c3
    clear c3
    obtain rfl := Option.some.inj H
    go_wp2
    go_ret
    exact ⟨by first | rfl | (simp; done) | (simp [*]; done), by repeat (first | exact ra_.refl _ | apply ra_.step)⟩
def md_.f (k : Nat) (l0 : List Int) (a1 : Int) : Option (Bool) := (ad_.f k l0 a1).bind fun t105 => (some (decide (t105 ≥ 0)))
theorem md_.mono : ∀ a0 a1 k, LeO (md_.f k a0 a1) (md_.f (k + 1) a0 a1) := by
 intro a0 a1 k
 unfold md_.f
 repeat' first
   | (with_reducible exact ad_.mono _ _ _)
   | (with_reducible exact LeO.refl _)
   | (with_reducible exact LeO.none _)
   | (with_reducible refine LeO.ite ?_ ?_)
   | (with_reducible refine LeO.bind ?_ (fun _ => ?_))
   | exact ad_.mono _ _ _
   | exact LeO.none _
   | refine LeO.ite ?_ ?_
   | refine LeO.bind ?_ (fun _ => ?_)
set_option maxHeartbeats 8000000 in
set_option maxRecDepth 100000 in
theorem md_.calls (k : Nat) (A0 : Option Addr) (c0 : Nat) (l0 : List Int) (a1 : Int) (r : Bool) (w : World) (hr0 : Kd.C (Kd.int .i64) w A0 l0.length l0) (hc0 : l0.length ≤ c0) (h : md_.f k l0 a1 = some r) :
  Calls Try.prog 46 #[.slice A0 l0.length c0, .int .i64 a1] w fun e w' => e = .returned (.bool r) ∧ ra_ w w' := by
 have HR0 := ba_.mk hr0
 have HC0 := ba_.mk hc0
 clear hr0 hc0
 have H : ((ad_.f k l0 a1).bind fun t105 => (some (decide (t105 ≥ 0)))) = some r := h
 clear h
 replace H := Option.bind_eq_some_iff.mp H
 obtain ⟨t105, A30, H⟩ := H
 replace H : (some (decide (t105 ≥ 0))) = some r := H
 have A3 := ba_.mk A30
 clear A30
 obtain rfl := Option.some.inj H
 go_enter Try.func46, Try.ntmps46
 go_wp2_with (first | ((with_reducible refine ua_ (f := 61) rfl ?_); refine hc_ (some 7) rfl rfl Try.func61 (by kernel_rfl) rfl #[.slice A0 l0.length c0, .int .i64 a1] rfl (by (try simp only [List.map_toArray, List.map_cons, List.map_nil]); first | done | rfl | (simp only [List.length_drop, List.length_take]; rfl)) ?_; (with_reducible refine (ad_.calls k _ _ l0 a1 t105 _ ?side1 ?side2 A3.out).mono ?_); (case side1 => repeat (first | exact HR0.out | (with_reducible refine Kd.yb_ ?_ _) | (with_reducible refine Kd.zb_ ?_ _) | (with_reducible refine Kd.jc_ ?_))); (case side2 => exact HC0.out); rintro e w' ⟨rfl, ⟨nd, rfl⟩⟩; refine ⟨_, rfl, ?_⟩))
 go_ret
 exact ⟨by first | rfl | (simp; done) | (simp [*]; done), by repeat (first | exact ra_.refl _ | apply ra_.step)⟩
def bd_.f (a0 : Int) : Option (Int) := if (wrap64 (a0 * 2)) ≥ 32 then (some (Go.bits .xor .i64 (wrap64 (a0 * 2)) 37)) else (some (wrap64 (a0 * 2)))
set_option maxHeartbeats 8000000 in
set_option maxRecDepth 100000 in
theorem bd_.calls (a0 : Int) (r : Int) (w : World) (h : bd_.f a0 = some r) :
  Calls Try.prog 41 #[.int .i64 a0] w fun e w' => e = .returned (.int .i64 r) ∧ ra_ w w' := by
 have H : (if (wrap64 (a0 * 2)) ≥ 32 then (some (Go.bits .xor .i64 (wrap64 (a0 * 2)) 37)) else (some (wrap64 (a0 * 2)))) = some r := h
 clear h
 by_cases c2 : (wrap64 (a0 * 2)) ≥ 32
 ·rw [if_pos c2] at H
  have c2b0 : decide (32 ≤ (wrap64 (a0 * 2))) = true := decide_eq_true c2
  clear c2
  obtain rfl := Option.some.inj H
  go_enter Try.func41, Try.ntmps41
  go_wp2
  go_ret
  exact ⟨by first | rfl | (simp; done) | (simp [*]; done), by repeat (first | exact ra_.refl _ | apply ra_.step)⟩
 ·rw [if_neg c2] at H
  have c2b0 : decide (32 ≤ (wrap64 (a0 * 2))) = false := decide_eq_false c2
  clear c2
  obtain rfl := Option.some.inj H
  go_enter Try.func41, Try.ntmps41
  go_wp2
  go_ret
  exact ⟨by first | rfl | (simp; done) | (simp [*]; done), by repeat (first | exact ra_.refl _ | apply ra_.step)⟩
def kd_.f (a0 : Int) : Option (Bool) := if a0 ≥ 0 then (some (decide (a0 < 32))) else (some false)
set_option maxHeartbeats 8000000 in
set_option maxRecDepth 100000 in
theorem kd_.calls (a0 : Int) (r : Bool) (w : World) (h : kd_.f a0 = some r) :
  Calls Try.prog 38 #[.int .i64 a0] w fun e w' => e = .returned (.bool r) ∧ ra_ w w' := by
 have H : (if a0 ≥ 0 then (some (decide (a0 < 32))) else (some false)) = some r := h
 clear h
 by_cases c2 : a0 ≥ 0
 ·rw [if_pos c2] at H
  have c2b0 : decide (0 ≤ a0) = true := decide_eq_true c2
  clear c2
  obtain rfl := Option.some.inj H
  go_enter Try.func38, Try.ntmps38
  go_wp2
  go_ret
  exact ⟨by first | rfl | (simp; done) | (simp [*]; done), by repeat (first | exact ra_.refl _ | apply ra_.step)⟩
 ·rw [if_neg c2] at H
  have c2b0 : decide (0 ≤ a0) = false := decide_eq_false c2
  clear c2
  obtain rfl := Option.some.inj H
  go_enter Try.func38, Try.ntmps38
  go_wp2
  go_ret
  exact ⟨by first | rfl | (simp; done) | (simp [*]; done), by repeat (first | exact ra_.refl _ | apply ra_.step)⟩
def mb_.l0 : Nat → Int → Int → Int → Option (Int)
 | 0, _, _, _ => none
 | k + 1, x0, x3, x5 => if x5 < 31 then (if x3 = x0 then (some x5) else ((bd_.f x3).bind fun t106 => (mb_.l0 k x0 t106 (wrap64 (x5 + 1))))) else (some 0)
def mb_.f (k : Nat) (a0 : Int) : Option (Int) := mb_.l0 k a0 1 0
theorem mb_.xc_ : ∀ k, (∀ y0 y1 y2, LeO (mb_.l0 k y0 y1 y2) (mb_.l0 (k + 1) y0 y1 y2))
 | 0 => fun _ _ _ r h => by simp [mb_.l0] at h
 | k + 1 => by
  have ih0 := mb_.xc_ k
  ·intro y0 y1 y2
   unfold mb_.l0
   repeat' first
   | (with_reducible exact ih0 _ _ _)
   | (with_reducible exact LeO.refl _)
   | (with_reducible exact LeO.none _)
   | (with_reducible refine LeO.ite ?_ ?_)
   | (with_reducible refine LeO.bind ?_ (fun _ => ?_))
   | exact ih0 _ _ _
   | exact LeO.none _
   | refine LeO.ite ?_ ?_
   | refine LeO.bind ?_ (fun _ => ?_)
theorem mb_.mono : ∀ a0 k, LeO (mb_.f k a0) (mb_.f (k + 1) a0) := by
 intro a0 k
 have ih0 := mb_.xc_ k
 unfold mb_.f
 repeat' first
   | (with_reducible exact ih0 _ _ _)
   | (with_reducible exact LeO.refl _)
   | (with_reducible exact LeO.none _)
   | (with_reducible refine LeO.ite ?_ ?_)
   | (with_reducible refine LeO.bind ?_ (fun _ => ?_))
   | exact ih0 _ _ _
   | exact LeO.none _
   | refine LeO.ite ?_ ?_
   | refine LeO.bind ?_ (fun _ => ?_)
set_option maxHeartbeats 8000000 in
set_option maxRecDepth 100000 in
theorem mb_.calls (k : Nat) (a0 : Int) (r : Int) (w : World) (h : mb_.f k a0 = some r) :
  Calls Try.prog 39 #[.int .i64 a0] w fun e w' => e = .returned (.int .i64 r) ∧ ra_ w w' := by
 have H : (mb_.l0 k a0 1 0) = some r := h
 clear h
 have H' := ba_.mk H
 clear H
 go_enter Try.func39, Try.ntmps39
 go_wp2
 go_loopg [3, 5] k (fun kq v3 v5 w' => ∃ (x3_1 : Int) (x5_1 : Int), v3 = .int .i64 x3_1 ∧ v5 = .int .i64 x5_1 ∧ ba_ (mb_.l0 kq a0 x3_1 x5_1 = some r) ∧ ba_ (kq ≤ k) ∧ ra_ w w')
 case atStart => exact ⟨(1), (0), (by first | rfl | (simp; done) | (simp [*]; done)), (by first | rfl | (simp; done) | (simp [*]; done)), H', ⟨Nat.le_refl _⟩, by repeat (first | exact ra_.refl _ | apply ra_.step)⟩
 case round =>
  clear H'
  obtain ⟨x3_1, x5_1, rfl, rfl, HA, HK1, ⟨m1, rfl⟩⟩ := hrel
  cases gk with
  | zero => exact absurd HA.out (by simp [mb_.l0])
  | succ k1 =>
   have H := HA.out
   clear HA
   simp only [mb_.l0] at H
   by_cases c2 : x5_1 < 31
   ·rw [if_pos c2] at H
    have c2b0 : decide (x5_1 < 31) = true := decide_eq_true c2
    clear c2
    by_cases c3 : x3_1 = a0
    ·rw [if_pos c3] at H
     have c3b0 : (x3_1 == a0) = true := beq_iff_eq.mpr c3
     have c3b1 : (x3_1 != a0) = false := bne_eq_false_iff_eq.mpr c3
     clear c3
     obtain rfl := Option.some.inj H
     go_wp2
     go_ret
     exact ⟨by first | rfl | (simp; done) | (simp [*]; done), by repeat (first | exact ra_.refl _ | apply ra_.step)⟩
    ·rw [if_neg c3] at H
     have c3b0 : (x3_1 == a0) = false := beq_eq_false_iff_ne.mpr c3
     have c3b1 : (x3_1 != a0) = true := bne_iff_ne.mpr c3
     replace H := Option.bind_eq_some_iff.mp H
     obtain ⟨t106, A40, H⟩ := H
     replace H : (mb_.l0 k1 a0 t106 (wrap64 (x5_1 + 1))) = some r := H
     have A4 := ba_.mk A40
     clear A40
     have H' := ba_.mk H
     clear H
     go_wp2_with (first | ((with_reducible refine ua_ (f := 41) rfl ?_); refine hc_ (some 13) rfl rfl Try.func41 (by kernel_rfl) rfl #[.int .i64 x3_1] rfl (by (try simp only [List.map_toArray, List.map_cons, List.map_nil]); first | done | rfl | (simp only [List.length_drop, List.length_take]; rfl)) ?_; (with_reducible refine (bd_.calls x3_1 t106 _ A4.out).mono ?_); rintro e w' ⟨rfl, ⟨nd, rfl⟩⟩; refine ⟨_, rfl, ?_⟩))
     go_roundg k1
     case measure => have := HK1.out; omega
     case rel => exact ⟨(t106), (wrap64 (x5_1 + 1)), (by first | rfl | (simp; done) | (simp [*]; done)), (by first | rfl | (simp; done) | (simp [*]; done)), H', ⟨by have := HK1.out; omega⟩, by repeat (first | exact ra_.refl _ | apply ra_.step)⟩
   ·rw [if_neg c2] at H
    have c2b0 : decide (x5_1 < 31) = false := decide_eq_false c2
    clear c2
    obtain rfl := Option.some.inj H
    go_wp2
    go_ret
    exact ⟨by first | rfl | (simp; done) | (simp [*]; done), by repeat (first | exact ra_.refl _ | apply ra_.step)⟩
mutual
def zc_.j0 : Nat → List Int → List Int → Bool → Option (List Int × Int)
 | 0, _, _, _ => none
 | k + 1, x0, x4, x18 => if x18 = true then (some (([] : List Int), 2)) else (if 6 ≤ 35184372088832 then ((some (List.replicate 6 0 : List Int)).bind fun y112 => (zc_.l0 k x0 x4 y112 (y112.length : Int) 0)) else (none))
def zc_.l0 : Nat → List Int → List Int → List Int → Int → Int → Option (List Int × Int)
 | 0, _, _, _, _, _ => none
 | k + 1, x0, x4, x5, x21, x22 => if x22 < x21 then (if 0 ≤ x22 then (if x22 < (x5.length : Int) then (zc_.l0 k x0 x4 (x5.set (x22 : Int).toNat (wrap64 ((x0.length : Int) + x22))) x21 (wrap64 (x22 + 1))) else (none)) else (none)) else ((tj_.f x4 x5).bind fun t116 => (some (t116, 0)))
end
def zc_.f (k : Nat) (l0 : List Int) : Option (List Int × Int) := (ct_.f l0).bind fun t107 => ((fi_.f t107 (-1)).bind fun t110 => (if t110 = true then ((md_.f k l0 (-1)).bind fun t111 => (zc_.j0 k l0 t107 t111)) else (zc_.j0 k l0 t107 true)))
theorem zc_.xc_ : ∀ k, (∀ y0 y1 y2, LeO (zc_.j0 k y0 y1 y2) (zc_.j0 (k + 1) y0 y1 y2)) ∧ (∀ y0 y1 y2 y3 y4, LeO (zc_.l0 k y0 y1 y2 y3 y4) (zc_.l0 (k + 1) y0 y1 y2 y3 y4))
 | 0 => ⟨fun _ _ _ r h => by simp [zc_.j0] at h, fun _ _ _ _ _ r h => by simp [zc_.l0] at h⟩
 | k + 1 => by
  obtain ⟨ih0, ih1⟩ := zc_.xc_ k
  refine ⟨?_, ?_⟩
  ·intro y0 y1 y2
   unfold zc_.j0
   repeat' first
   | (with_reducible exact ih0 _ _ _)
   | (with_reducible exact ih1 _ _ _ _ _)
   | (with_reducible exact md_.mono _ _ _)
   | (with_reducible exact LeO.refl _)
   | (with_reducible exact LeO.none _)
   | (with_reducible refine LeO.ite ?_ ?_)
   | (with_reducible refine LeO.bind ?_ (fun _ => ?_))
   | exact ih0 _ _ _
   | exact ih1 _ _ _ _ _
   | exact md_.mono _ _ _
   | exact LeO.none _
   | refine LeO.ite ?_ ?_
   | refine LeO.bind ?_ (fun _ => ?_)
  ·intro y0 y1 y2 y3 y4
   unfold zc_.l0
   repeat' first
   | (with_reducible exact ih0 _ _ _)
   | (with_reducible exact ih1 _ _ _ _ _)
   | (with_reducible exact md_.mono _ _ _)
   | (with_reducible exact LeO.refl _)
   | (with_reducible exact LeO.none _)
   | (with_reducible refine LeO.ite ?_ ?_)
   | (with_reducible refine LeO.bind ?_ (fun _ => ?_))
   | exact ih0 _ _ _
   | exact ih1 _ _ _ _ _
   | exact md_.mono _ _ _
   | exact LeO.none _
   | refine LeO.ite ?_ ?_
   | refine LeO.bind ?_ (fun _ => ?_)
theorem zc_.mono : ∀ a0 k, LeO (zc_.f k a0) (zc_.f (k + 1) a0) := by
 intro a0 k
 obtain ⟨ih0, ih1⟩ := zc_.xc_ k
 unfold zc_.f
 repeat' first
   | (with_reducible exact ih0 _ _ _)
   | (with_reducible exact ih1 _ _ _ _ _)
   | (with_reducible exact md_.mono _ _ _)
   | (with_reducible exact LeO.refl _)
   | (with_reducible exact LeO.none _)
   | (with_reducible refine LeO.ite ?_ ?_)
   | (with_reducible refine LeO.bind ?_ (fun _ => ?_))
   | exact ih0 _ _ _
   | exact ih1 _ _ _ _ _
   | exact md_.mono _ _ _
   | exact LeO.none _
   | refine LeO.ite ?_ ?_
   | refine LeO.bind ?_ (fun _ => ?_)
set_option maxHeartbeats 8000000 in
set_option maxRecDepth 100000 in
theorem zc_.calls (k : Nat) (A0 : Option Addr) (c0 : Nat) (l0 : List Int) (r1 : List Int) (r2 : Int) (w : World) (hr0 : Kd.C (Kd.int .i64) w A0 l0.length l0) (hc0 : l0.length ≤ c0) (h : zc_.f k l0 = some (r1, r2)) :
  Calls Try.prog 27 #[.slice A0 l0.length c0] w fun e w' => ∃ v0_ : Value, e = .returned (.tuple #[v0_, .int .i64 r2]) ∧ Kd.R (Kd.int .i64) 3 w' w.heap.size (fun _ => True) v0_ r1 ∧ Below w.heap.size w w' := by
 have HR0 := ba_.mk hr0
 have HC0 := ba_.mk hc0
 clear hr0 hc0
 have HB := ba_.mk (Below.refl w.heap.size w)
 have H : ((ct_.f l0).bind fun t107 => ((fi_.f t107 (-1)).bind fun t110 => (if t110 = true then ((md_.f k l0 (-1)).bind fun t111 => (zc_.j0 k l0 t107 t111)) else (zc_.j0 k l0 t107 true)))) = some (r1, r2) := h
 clear h
 replace H := Option.bind_eq_some_iff.mp H
 obtain ⟨t107, A20, H⟩ := H
 replace H : ((fi_.f t107 (-1)).bind fun t110 => (if t110 = true then ((md_.f k l0 (-1)).bind fun t111 => (zc_.j0 k l0 t107 t111)) else (zc_.j0 k l0 t107 true))) = some (r1, r2) := H
 have A2 := ba_.mk A20
 clear A20
 have HC3 := ba_.mk H
 clear H
 go_enter Try.func27, Try.ntmps27
 go_upto_region 2 with (first | ((with_reducible refine yd_ (N := 8) rfl ?_); refine Kd.ri_ (Kd.int .i64) w.heap.size 3 rfl (N := 8) rfl (xs := ([-1] : List Int)) (inner := [.int .i64 (-1)]) (ok := fun _ => True) (okp := fun _ => True) ?hr ?hp (fun _ hk => hk) trivial HB.out (Nat.le_refl _) (by simp) ?_; (case hr => first | (go_simp; done) | (go_simp; rfl)); (case hp => exact (Reps.one (show Kd.M (Kd.int .i64) _ _ _ (-1) [.int .i64 (-1)] from rfl) (Reps.none _ _))); intro v8 w8 ho hb hg_ hnew_; clear hg_ hnew_; clear HB; obtain ⟨g8, co8, eo8, _, _, _⟩ := Kd.yg_ ho (by decide); subst eo8; have HOa := ba_.mk ho; have HB := ba_.mk hb; clear ho hb) | ((with_reducible refine ua_ (f := 44) rfl ?_); refine hc_ (some 9) rfl rfl Try.func44 (by kernel_rfl) rfl #[.slice (some ⟨g8, 0, none⟩) 1 co8, .int .i64 6] rfl (by (try simp only [List.map_toArray, List.map_cons, List.map_nil]); first | done | rfl) ?_; (refine (gv_ (some ⟨g8, 0, none⟩) co8 (-1) _ (Kd.ta_ HOa.out).2.2 (Kd.ta_ HOa.out).2.1).mono ?_); rintro e w9 ⟨v9, rfl, ho, hb⟩; refine ⟨_, rfl, ?_⟩; obtain ⟨A9, co9, eo9⟩ := Kd.fc_ ho; subst eo9; have HOb := ba_.mk ho; have n1_ := ba_.mk (gb_ HB.out hb); clear HB; have HB := n1_; clear n1_ ho hb) | ((with_reducible refine yd_ (N := 10) rfl ?_); refine bl_ (v := .slice (some ⟨w9.heap.size, 0, none⟩) 2 2) (w1 := w9.alloc (.cells #[.slice A0 l0.length c0, .slice A9 6 co9] 27)) rfl ?hr ?_; (case hr => first | (go_simp; done) | (go_simp; rfl))) | ((with_reducible refine ua_ (f := 43) rfl ?_); refine hc_ (some 11) rfl rfl Try.func43 (by kernel_rfl) rfl #[.slice (some ⟨w9.heap.size, 0, none⟩) 2 2] rfl (by (try simp only [List.map_toArray, List.map_cons, List.map_nil]); first | done | rfl) ?_; (refine (fm_ A0 c0 l0 A9 co9 (List.replicate 6 (-1 : Int)) w9 (Kd.ie_ HR0.out HB.out) HC0.out (Kd.ta_ HOb.out).2.2 (Kd.ta_ HOb.out).2.1 (by have := (ct_.some A2.out).2; simp only [List.length_replicate]; omega)).mono ?_); rintro e w10 ⟨v108, rfl, ho0, hb⟩; refine ⟨_, rfl, ?_⟩; have n0_ := ba_.mk (show Kd.R (Kd.int .i64) 3 w10 w.heap.size (fun _ => True) v108 t107 from by rw [(ct_.some A2.out).1]; exact Kd.wc_ ho0 (eb_ HB.out)); have n1_ := ba_.mk (gb_ HB.out hb); clear HB; have HO109 := n0_; have HB := n1_; clear n0_ n1_ ho0 hb))
 (try simp only [Act.put, List.setIfInBounds_toArray, List.set_cons_zero, List.set_cons_succ])
 go_cut [18] (fun v18 wc => ∃ (kq : Nat) (x18_2 : Bool), v18 = .bool x18_2 ∧ ba_ (zc_.j0 kq l0 t107 x18_2 = some (r1, r2)) ∧ ba_ (kq ≤ k) ∧ ba_ (Kd.R (Kd.int .i64) 3 wc w.heap.size (fun _ => True) v108 t107) ∧ ba_ (Below w.heap.size w wc))
 case first =>
  have H := HC3.out
  clear HC3
  replace H := Option.bind_eq_some_iff.mp H
  obtain ⟨t110, A50, H⟩ := H
  replace H : (if t110 = true then ((md_.f k l0 (-1)).bind fun t111 => (zc_.j0 k l0 t107 t111)) else (zc_.j0 k l0 t107 true)) = some (r1, r2) := H
  have A5 := ba_.mk A50
  clear A50
  by_cases c6 : t110 = true
  ·subst c6
   have H1 : ((md_.f k l0 (-1)).bind fun t111 => (zc_.j0 k l0 t107 t111)) = some (r1, r2) := by rw [if_pos rfl] at H; exact H
   clear H
   have H := H1
   clear H1
   replace H := Option.bind_eq_some_iff.mp H
   obtain ⟨t111, A70, H⟩ := H
   replace H : (zc_.j0 k l0 t107 t111) = some (r1, r2) := H
   have A7 := ba_.mk A70
   clear A70
   have H' := ba_.mk H
   clear H
   obtain ⟨Ao8, co8, eo8⟩ := Kd.fc_ HO109.out
   subst eo8
   go_wp2_with (first | ((with_reducible refine ua_ (f := 45) rfl ?_); refine hc_ (some 13) rfl rfl Try.func45 (by kernel_rfl) rfl #[.slice Ao8 t107.length co8, .int .i64 (-1)] rfl (by (try simp only [List.map_toArray, List.map_cons, List.map_nil]); first | done | rfl | (simp only [List.length_drop, List.length_take]; rfl)) ?_; (with_reducible refine (fi_.calls _ _ t107 (-1) true _ ?side1 ?side2 A5.out).mono ?_); (case side1 => repeat (first | exact (Kd.ta_ HO109.out).2.2 | (with_reducible refine Kd.yb_ ?_ _) | (with_reducible refine Kd.zb_ ?_ _) | (with_reducible refine Kd.jc_ ?_))); (case side2 => exact (Kd.ta_ HO109.out).2.1); rintro e w9 ⟨rfl, hb⟩; refine ⟨_, rfl, ?_⟩; have n0_ := ba_.mk (Kd.cd_ (by (with_reducible repeat (first | apply Kd.la_ | apply Kd.ka_ | apply Kd.ma_)); exact HO109.out) hb); have n1_ := ba_.mk (gb_ (by repeat (first | (with_reducible first | exact HB.out | apply fa_ | apply ca_ | apply ga_) | exact HB.out)) hb); clear HO109; clear HB; have HO109 := n0_; have HB := n1_; clear n0_ n1_; (try clear hb); (try clear hb2); (try clear hk); (try clear hi)) | (go_at_call 46; (with_reducible refine (md_.calls k _ _ l0 (-1) t111 _ ?side1 ?side2 A7.out).mono ?_); (case side1 => repeat (first | exact (Kd.ie_ HR0.out HB.out) | (with_reducible refine Kd.yb_ ?_ _) | (with_reducible refine Kd.zb_ ?_ _) | (with_reducible refine Kd.jc_ ?_))); (case side2 => exact HC0.out); rintro e w' ⟨rfl, ⟨nd, rfl⟩⟩))
   go_meet
   case rel => exact ⟨_, (t111), (by first | rfl | (simp; done) | (simp [*]; done)), H', ⟨by first | omega | exact Nat.le_refl _⟩, ⟨by (with_reducible repeat (first | apply Kd.la_ | apply Kd.ka_ | apply Kd.ma_)); exact HO109.out⟩, ⟨by repeat (first | (with_reducible first | exact HB.out | apply fa_ | apply ca_ | apply ga_) | exact HB.out)⟩⟩
  ·replace c6 := Bool.eq_false_iff.mpr c6
   subst c6
   have H1 : (zc_.j0 k l0 t107 true) = some (r1, r2) := by rw [if_neg (show ¬ (false = true) by decide)] at H; exact H
   clear H
   have H := H1
   clear H1
   have H' := ba_.mk H
   clear H
   obtain ⟨Ao10, co10, eo10⟩ := Kd.fc_ HO109.out
   subst eo10
   go_wp2_with (first | ((with_reducible refine ua_ (f := 45) rfl ?_); refine hc_ (some 13) rfl rfl Try.func45 (by kernel_rfl) rfl #[.slice Ao10 t107.length co10, .int .i64 (-1)] rfl (by (try simp only [List.map_toArray, List.map_cons, List.map_nil]); first | done | rfl | (simp only [List.length_drop, List.length_take]; rfl)) ?_; (with_reducible refine (fi_.calls _ _ t107 (-1) false _ ?side1 ?side2 A5.out).mono ?_); (case side1 => repeat (first | exact (Kd.ta_ HO109.out).2.2 | (with_reducible refine Kd.yb_ ?_ _) | (with_reducible refine Kd.zb_ ?_ _) | (with_reducible refine Kd.jc_ ?_))); (case side2 => exact (Kd.ta_ HO109.out).2.1); rintro e w11 ⟨rfl, hb⟩; refine ⟨_, rfl, ?_⟩; have n0_ := ba_.mk (Kd.cd_ (by (with_reducible repeat (first | apply Kd.la_ | apply Kd.ka_ | apply Kd.ma_)); exact HO109.out) hb); have n1_ := ba_.mk (gb_ (by repeat (first | (with_reducible first | exact HB.out | apply fa_ | apply ca_ | apply ga_) | exact HB.out)) hb); clear HO109; clear HB; have HO109 := n0_; have HB := n1_; clear n0_ n1_; (try clear hb); (try clear hb2); (try clear hk); (try clear hi)))
   go_meet
   case rel => exact ⟨_, (true), (by first | rfl | (simp; done) | (simp [*]; done)), H', ⟨by first | omega | exact Nat.le_refl _⟩, ⟨by (with_reducible repeat (first | apply Kd.la_ | apply Kd.ka_ | apply Kd.ma_)); exact HO109.out⟩, ⟨by repeat (first | (with_reducible first | exact HB.out | apply fa_ | apply ca_ | apply ga_) | exact HB.out)⟩⟩
 case rest =>
  clear HC3
  try clear c2
  try clear p2
  try clear c4
  try clear c6
  obtain ⟨kq, x18_2, rfl, HA, HJ2, HO_4, HB⟩ := hcut
  cases kq with
  | zero => exact absurd HA.out (by simp [zc_.j0])
  | succ kj2 =>
   have H := HA.out
   clear HA
   simp only [zc_.j0] at H
   by_cases c12 : x18_2 = true
   ·subst c12
    have H1 : (some (([] : List Int), 2)) = some (r1, r2) := by rw [if_pos rfl] at H; exact H
    clear H
    have H := H1
    clear H1
    simp only [Option.some.injEq, Prod.mk.injEq] at H
    obtain ⟨rfl, rfl⟩ := H
    go_wp2
    go_ret2
    exact ⟨_, by first | rfl | (simp [bb_, cb_] <;> rfl) | (simp [*, bb_, cb_] <;> rfl), by first | exact Kd.uf_ _ _ _ _ _ | exact Kd.mh_ _ _ _ _ _ | exact Kd.ph_ _ _ _ _ _ | exact Kd.nh_ _ _ _ _ _ | exact Kd.oh_ _ _ _ _ _, by repeat (first | (with_reducible first | exact HB.out | apply fa_ | apply ca_ | apply ga_) | exact HB.out)⟩
   ·replace c12 := Bool.eq_false_iff.mpr c12
    subst c12
    have H1 : (if 6 ≤ 35184372088832 then ((some (List.replicate 6 0 : List Int)).bind fun y112 => (zc_.l0 kj2 l0 t107 y112 (y112.length : Int) 0)) else (none)) = some (r1, r2) := by rw [if_neg (show ¬ (false = true) by decide)] at H; exact H
    clear H
    have H := H1
    clear H1
    by_cases c13 : 6 ≤ 35184372088832
    ·rw [if_pos c13] at H
     have c13b0 := eq_true c13
     have c13b1 : decide (6 ≤ 35184372088832) = true := decide_eq_true c13
     clear c13
     obtain ⟨y112, hy112⟩ : ∃ y_ : List Int, y_ = (List.replicate 6 0) := ⟨_, rfl⟩
     replace H : (zc_.l0 kj2 l0 t107 y112 (y112.length : Int) 0) = some (r1, r2) := by first | (rw [hy112]; with_reducible exact H) | (have H2_ := (Option.bind_some _ _).symm.trans H; rw [hy112]; with_reducible exact H2_) | (have H2_ := (Option.bind_some _ _).symm.trans H; with_reducible exact H2_) | with_reducible exact H | (rw [hy112]; exact H) | exact H
     have Ny112 := ba_.mk hy112
     clear hy112
     have H' := ba_.mk H
     clear H
     go_wp2_with (first | ((with_reducible refine yd_ (N := 19) rfl ?_); refine Kd.uq_ (Kd.int .i64) _ 3 rfl (N := 19) rfl 27 _ _ rfl 6 rfl rfl Try.underlying27 (.int .i64 0) 8 te_ rfl (by decide) (by omega) 0 (ok := fun _ => True) (okp := fun _ => True) rfl (fun _ hk => hk) trivial (by omega) (by omega) (Below.refl _ _) (Nat.le_refl _) ?_; intro v113 w14 ho15 hb hg_ hnew_; clear hg_ hnew_; (first | rw [← Ny112.out] at ho15 | (simp only [Int.reduceToNat] at ho15; rw [← Ny112.out] at ho15)); have n0_ := ba_.mk (Kd.wb_ (by (with_reducible repeat (first | apply Kd.la_ | apply Kd.ka_ | apply Kd.ma_)); exact HO_4.out) (Kd.rc_ ho15) hb); have n1_ := ba_.mk (Kd.wc_ (Kd.qc_ ho15 (Kd.R_lt (by (with_reducible repeat (first | apply Kd.la_ | apply Kd.ka_ | apply Kd.ma_)); exact HO_4.out))) (eb_ (by repeat (first | (with_reducible first | exact HB.out | apply fa_ | apply ca_ | apply ga_) | exact HB.out)))); have n2_ := ba_.mk (gb_ (by repeat (first | (with_reducible first | exact HB.out | apply fa_ | apply ca_ | apply ga_) | exact HB.out)) hb); clear HO_4; clear HB; have HO_4 := n0_; have HO114 := n1_; have HB := n2_; clear n0_ n1_ n2_; clear hb ho15; obtain ⟨Ao16, co16, eo16⟩ := Kd.fc_ HO114.out; subst eo16))
     go_loopg [22] kj2 (fun kq v22 w' => ∃ (x5_2 : List Int) (x22_2 : Int), v22 = .int .i64 x22_2 ∧ ba_ (zc_.l0 kq l0 t107 x5_2 (y112.length : Int) x22_2 = some (r1, r2)) ∧ ba_ (kq ≤ kj2) ∧ ba_ (Kd.R (Kd.int .i64) 3 w' w.heap.size (fun k_ => some k_ ≠ ((.slice Ao16 y112.length co16) : Value).ownBlock) v108 t107) ∧ ba_ (Kd.R (Kd.int .i64) 3 w' w.heap.size (fun k_ => some k_ ≠ (v108 : Value).ownBlock) (.slice Ao16 y112.length co16) x5_2) ∧ ba_ (Below w.heap.size w w'))
     case atStart => exact ⟨(y112), (0), (by first | rfl | (simp; done) | (simp [*]; done)), H', ⟨Nat.le_refl _⟩, ⟨by (with_reducible repeat (first | apply Kd.la_ | apply Kd.ka_ | apply Kd.ma_)); exact Kd.bc_ HO_4.out (fun _ hk => hk.2)⟩, ⟨by (with_reducible repeat (first | apply Kd.la_ | apply Kd.ka_ | apply Kd.ma_)); exact Kd.bc_ HO114.out (fun _ hk => hk.2)⟩, ⟨by repeat (first | (with_reducible first | exact HB.out | apply fa_ | apply ca_ | apply ga_) | exact HB.out)⟩⟩
     case round =>
      clear H'
      try clear c1
      try clear c2
      try clear p2
      try clear c4
      try clear c6
      try clear c12
      try clear c13
      try clear c13b0
      try clear c13b1
      try clear p2
      obtain ⟨x5_2, x22_2, rfl, HA, HK2, HO_4, HO_5, HB⟩ := hrel
      have hl5_2 := (Kd.ta_ HO_5.out).1
      rw [hl5_2] at HO_5
      (try simp only [hl5_2])
      (try simp only [hl5_2] at HO_4)
      cases gk with
      | zero => exact absurd HA.out (by simp [zc_.l0])
      | succ k2 =>
       have H := HA.out
       clear HA
       simp only [zc_.l0] at H
       by_cases c17 : x22_2 < (y112.length : Int)
       ·rw [if_pos c17] at H
        have c17b0 : decide (x22_2 < (y112.length : Int)) = true := decide_eq_true c17
        (try simp only [hl5_2] at c17b0)
        clear c17
        by_cases c18 : 0 ≤ x22_2
        ·rw [if_pos c18] at H
         have c18b0 : decide (0 ≤ x22_2) = true := decide_eq_true c18
         clear c18
         by_cases c19 : x22_2 < (x5_2.length : Int)
         ·rw [if_pos c19] at H
          have c19b0 : decide (x22_2 < (x5_2.length : Int)) = true := decide_eq_true c19
          clear c19
          obtain ⟨y115, hy115⟩ : ∃ y_ : List Int, y_ = (x5_2.set (x22_2 : Int).toNat (wrap64 ((l0.length : Int) + x22_2))) := ⟨_, rfl⟩
          replace H : (zc_.l0 k2 l0 t107 y115 (y112.length : Int) (wrap64 (x22_2 + 1))) = some (r1, r2) := by first | (rw [hy115]; with_reducible exact H) | (have H2_ := (Option.bind_some _ _).symm.trans H; rw [hy115]; with_reducible exact H2_) | (have H2_ := (Option.bind_some _ _).symm.trans H; with_reducible exact H2_) | with_reducible exact H | (rw [hy115]; exact H) | exact H
          have Ny115 := ba_.mk hy115
          clear hy115
          have H' := ba_.mk H
          clear H
          have p20 : 0 ≤ (x22_2 : Int) := of_decide_eq_true (by first | (with_reducible assumption) | assumption)
          have q20 : (x22_2 : Int) < ((x5_2.length : Int) : Int) := of_decide_eq_true (by first | (with_reducible assumption) | assumption)
          obtain ⟨go20, co20, eo20, gb20, gl20, cl20, HG20⟩ := Kd.yg_ HO_5.out (by omega)
          (first | cases eo20 | (injection eo20 with ea_ en_ ec_; (first | subst ea_ | (injection ea_ with ea_; subst ea_)); subst ec_; clear en_))
          have GB20 := ba_.mk gb20
          have GG20 := ba_.mk HG20
          clear gb20 gl20 HG20
          obtain ⟨hx20_0, hf20_0⟩ := Kd.of_ 0 HO_5.out (x22_2 : Int) p20 q20
          replace p20 := eq_true p20
          replace q20 := eq_true q20
          have HP21 := Kd.am_ HO_5.out (x22_2 : Int) (wrap64 ((l0.length : Int) + x22_2))
          go_wp2_with (first | ((with_reducible refine ch_ (t := 3) (p := 31) rfl ?_); refine mg_ (t := 3) (p := 31) (v := ?vo_w22) (w1 := (wr.setCell ⟨go20, (x22_2 : Int).toNat, none⟩ (.int .i64 (wrap64 ((l0.length : Int) + x22_2))))) ?hg ?ho ?hn ?hr ?_; (case ho => rfl); (case hg => rfl); (case hn => rfl); (case hr => first | (go_simp; done) | (go_simp; rfl)); intro w22 hw; have hg : wr.grownBy w22 (some go20) := (by rw [hw]; exact HP21.2); have hp_ : Kd.R (Kd.int .i64) 3 w22 w.heap.size (fun k_ => some k_ ≠ (v108 : Value).ownBlock) (.slice (some ⟨go20, 0, none⟩) x5_2.length co16) y115 := (by rw [hw, Ny115.out]; exact HP21.1); clear HP21; have n0_ := ba_.mk (Kd.wd_ (v := (.slice (some ⟨go20, 0, none⟩) x5_2.length co16)) (v1 := (.slice (some ⟨go20, 0, none⟩) x5_2.length co16)) (ok := (fun _ => True)) (by (with_reducible repeat (first | apply Kd.la_ | apply Kd.ka_ | apply Kd.ma_)); exact Kd.bc_ HO_4.out (fun _ hk => ⟨trivial, hk⟩)) hg (.inl rfl)); have n1_ := ba_.mk (hp_); have n2_ := ba_.mk ((by rw [hw]; exact qa_ (HB.out) GB20.out : Below w.heap.size w w22)); clear HO_4; clear HO_5; clear HB; have HO_4 := n0_; have HO_5 := n1_; have HB := n2_; clear n0_ n1_ n2_; clear hg hw hp_))
          (try simp only [← hl5_2])
          go_roundg k2
          case measure => have := HJ2.out; have := HK2.out; omega
          case rel => exact ⟨(y115), (wrap64 (x22_2 + 1)), (by first | rfl | (simp; done) | (simp [*]; done)), H', ⟨by have := HJ2.out; have := HK2.out; omega⟩, ⟨by (try simp only [hl5_2]); (with_reducible repeat (first | apply Kd.la_ | apply Kd.ka_ | apply Kd.ma_)); exact Kd.bc_ HO_4.out (fun _ hk => hk.2)⟩, ⟨by (try simp only [hl5_2]); (with_reducible repeat (first | apply Kd.la_ | apply Kd.ka_ | apply Kd.ma_)); exact HO_5.out⟩, ⟨by repeat (first | (with_reducible first | exact HB.out | apply fa_ | apply ca_ | apply ga_) | exact HB.out)⟩⟩
         ·rw [if_neg c19] at H
          exact absurd H (by simp)
        ·rw [if_neg c18] at H
         exact absurd H (by simp)
       ·rw [if_neg c17] at H
        have c17b0 : decide (x22_2 < (y112.length : Int)) = false := decide_eq_false c17
        (try simp only [hl5_2] at c17b0)
        clear c17
        replace H := Option.bind_eq_some_iff.mp H
        obtain ⟨t116, A230, H⟩ := H
        replace H : (some (t116, 0)) = some (r1, r2) := H
        have A23 := ba_.mk A230
        clear A230
        simp only [Option.some.injEq, Prod.mk.injEq] at H
        obtain ⟨rfl, rfl⟩ := H
        obtain ⟨Ao24, co24, eo24⟩ := Kd.fc_ HO_4.out
        subst eo24
        go_wp2_with (first | ((with_reducible refine ua_ (f := 47) rfl ?_); refine hc_ (some 35) rfl rfl Try.func47 (by kernel_rfl) rfl #[.slice Ao24 t107.length co24, .slice Ao16 x5_2.length co16] rfl (by (try simp only [List.map_toArray, List.map_cons, List.map_nil]); first | done | rfl | (simp only [List.length_drop, List.length_take]; rfl)) ?_; (with_reducible refine (tj_.calls _ _ t107 _ _ x5_2 t116 _ ?side1 ?side2 ?side3 ?side4 A23.out).mono ?_); (case side1 => repeat (first | exact (Kd.ta_ HO_4.out).2.2 | (with_reducible refine Kd.yb_ ?_ _) | (with_reducible refine Kd.zb_ ?_ _) | (with_reducible refine Kd.jc_ ?_))); (case side2 => exact (Kd.ta_ HO_4.out).2.1); (case side3 => repeat (first | exact (Kd.ta_ HO_5.out).2.2 | (with_reducible refine Kd.yb_ ?_ _) | (with_reducible refine Kd.zb_ ?_ _) | (with_reducible refine Kd.jc_ ?_))); (case side4 => exact (Kd.ta_ HO_5.out).2.1); rintro e w25 ⟨v117, rfl, ho0, hb⟩; refine ⟨_, rfl, ?_⟩; have n0_ := ba_.mk (Kd.wb_ (by (with_reducible repeat (first | apply Kd.la_ | apply Kd.ka_ | apply Kd.ma_)); exact HO_4.out) (Kd.rc_ ho0) hb); have n1_ := ba_.mk (Kd.wb_ (by (with_reducible repeat (first | apply Kd.la_ | apply Kd.ka_ | apply Kd.ma_)); exact HO_5.out) (Kd.rc_ ho0) hb); have n2_ := ba_.mk (Kd.wc_ (Kd.qc_ (Kd.qc_ ho0 (Kd.R_lt (by (with_reducible repeat (first | apply Kd.la_ | apply Kd.ka_ | apply Kd.ma_)); exact HO_4.out))) (Kd.R_lt (by (with_reducible repeat (first | apply Kd.la_ | apply Kd.ka_ | apply Kd.ma_)); exact HO_5.out))) (eb_ (by repeat (first | (with_reducible first | exact HB.out | apply fa_ | apply ca_ | apply ga_) | exact HB.out)))); have n3_ := ba_.mk (gb_ (by repeat (first | (with_reducible first | exact HB.out | apply fa_ | apply ca_ | apply ga_) | exact HB.out)) hb); clear HO_4; clear HO_5; clear HB; have HO_4 := n0_; have HO_5 := n1_; have HO118 := n2_; have HB := n3_; clear n0_ n1_ n2_ n3_; (try clear hb); (try clear hb2); (try clear hk); (try clear hi); (try clear ho0)))
        go_ret2
        exact ⟨_, by first | rfl | (simp [bb_, cb_] <;> rfl) | (simp [*, bb_, cb_] <;> rfl), by (with_reducible repeat (first | apply Kd.la_ | apply Kd.ka_ | apply Kd.ma_)); exact Kd.bc_ HO118.out (fun _ hk => trivial), by repeat (first | (with_reducible first | exact HB.out | apply fa_ | apply ca_ | apply ga_) | exact HB.out)⟩
    ·rw [if_neg c13] at H
     exact absurd H (by simp)
end Go.Proofs.Ytpkhgapifnjbeaa.E
end
section
namespace Go.Proofs.Ytpkhgapifnjbeaa.E
open Go.RowKit Go.Proofs.Ytpkhgapifnjbeaa.G Go.Proofs.Ytpkhgapifnjbeaa.Rs Go.Proofs.YtpkhgapifnjbeaaW.PrintWords Go.Proofs.YtpkhgapifnjbeaaW.PrintLast Go.Proofs.YtpkhgapifnjbeaaW.PrintMore
attribute [local go_sem] dd_ fd_ rd_ sd_ uc_ vc_ ed_ gd_
set_option linter.unusedVariables false
set_option linter.unusedSimpArgs false
end Go.Proofs.Ytpkhgapifnjbeaa.E
end
section
namespace Go.Proofs.Ytpkhgapifnjbeaa.U
open Go.RowKit Go.Proofs.Ytpkhgapifnjbeaa.G Go.Proofs.Ytpkhgapifnjbeaa.Rs Go.Proofs.YtpkhgapifnjbeaaW.PrintWords Go.Proofs.YtpkhgapifnjbeaaW.PrintLast Go.Proofs.YtpkhgapifnjbeaaW.PrintMore
attribute [local go_sem] dd_ fd_ rd_ sd_ uc_ vc_ ed_ gd_
set_option linter.unusedVariables false
set_option linter.unusedSimpArgs false
def errW : Option Int → Value
 | none => .nilIface
 | some c => .iface 0 (.int .i64 c)
theorem bb_ : errW none = .nilIface := rfl
theorem cb_ (c : Int) : errW (some c) = .iface 0 (.int .i64 c) := rfl
theorem te_ : (Try.prog.info? 3).map (fun i => (i.zero, i.size, i.bytes)) = some (some (.int .i64 0), 1, 8) := by kernel_rfl
end Go.Proofs.Ytpkhgapifnjbeaa.U
end
section
namespace Go.Proofs.Ytpkhgapifnjbeaa.U
open Go.RowKit Go.Proofs.Ytpkhgapifnjbeaa.G Go.Proofs.Ytpkhgapifnjbeaa.Rs Go.Proofs.YtpkhgapifnjbeaaW.PrintWords Go.Proofs.YtpkhgapifnjbeaaW.PrintLast Go.Proofs.YtpkhgapifnjbeaaW.PrintMore
attribute [local go_sem] dd_ fd_ rd_ sd_ uc_ vc_ ed_ gd_
set_option linter.unusedVariables false
set_option linter.unusedSimpArgs false
def tc_.l0 : Nat → List Int → List Int → Int → Int → Option (Int)
 | 0, _, _, _, _ => none
 | k + 1, x0, x1, x5, x6 => if x6 < (x0.length : Int) then (if 0 ≤ x6 then (if (rd x0 x6) ≥ 0 then (if x6 < (x1.length : Int) then (if (rd x0 x6) = (rd x1 x6) then (tc_.l0 k x0 x1 x5 (wrap64 (x6 + 1))) else (tc_.l0 k x0 x1 (wrap64 (x5 + 1)) (wrap64 (x6 + 1)))) else (none)) else (tc_.l0 k x0 x1 x5 (wrap64 (x6 + 1)))) else (none)) else (some x5)
def tc_.f (k : Nat) (l0 : List Int) (l1 : List Int) : Option (Int) := tc_.l0 k l0 l1 0 0
theorem tc_.xc_ : ∀ k, (∀ y0 y1 y2 y3, LeO (tc_.l0 k y0 y1 y2 y3) (tc_.l0 (k + 1) y0 y1 y2 y3))
 | 0 => fun _ _ _ _ r h => by simp [tc_.l0] at h
 | k + 1 => by
  have ih0 := tc_.xc_ k
  ·intro y0 y1 y2 y3
   unfold tc_.l0
   repeat' first
   | (with_reducible exact ih0 _ _ _ _)
   | (with_reducible exact LeO.refl _)
   | (with_reducible exact LeO.none _)
   | (with_reducible refine LeO.ite ?_ ?_)
   | (with_reducible refine LeO.bind ?_ (fun _ => ?_))
   | exact ih0 _ _ _ _
   | exact LeO.none _
   | refine LeO.ite ?_ ?_
   | refine LeO.bind ?_ (fun _ => ?_)
theorem tc_.mono : ∀ a0 a1 k, LeO (tc_.f k a0 a1) (tc_.f (k + 1) a0 a1) := by
 intro a0 a1 k
 have ih0 := tc_.xc_ k
 unfold tc_.f
 repeat' first
   | (with_reducible exact ih0 _ _ _ _)
   | (with_reducible exact LeO.refl _)
   | (with_reducible exact LeO.none _)
   | (with_reducible refine LeO.ite ?_ ?_)
   | (with_reducible refine LeO.bind ?_ (fun _ => ?_))
   | exact ih0 _ _ _ _
   | exact LeO.none _
   | refine LeO.ite ?_ ?_
   | refine LeO.bind ?_ (fun _ => ?_)
set_option maxHeartbeats 8000000 in
set_option maxRecDepth 100000 in
theorem tc_.calls (k : Nat) (A0 : Option Addr) (c0 : Nat) (l0 : List Int) (A1 : Option Addr) (c1 : Nat) (l1 : List Int) (r : Int) (w : World) (hr0 : Kd.C (Kd.int .i64) w A0 l0.length l0) (hc0 : l0.length ≤ c0) (hr1 : Kd.C (Kd.int .i64) w A1 l1.length l1) (hc1 : l1.length ≤ c1) (h : tc_.f k l0 l1 = some r) :
  Calls Try.prog 56 #[.slice A0 l0.length c0, .slice A1 l1.length c1] w fun e w' => e = .returned (.int .i64 r) ∧ ra_ w w' := by
 have HR0 := ba_.mk hr0
 have HC0 := ba_.mk hc0
 clear hr0 hc0
 have HR1 := ba_.mk hr1
 have HC1 := ba_.mk hc1
 clear hr1 hc1
 have H : (tc_.l0 k l0 l1 0 0) = some r := h
 clear h
 have H' := ba_.mk H
 clear H
 go_enter Try.func56, Try.ntmps56
 go_wp2
 repeat (go_quiet (fail); try go_wp2)
 go_loopg [5, 6] k (fun kq v5 v6 w' => ∃ (x5_1 : Int) (x6_1 : Int), v5 = .int .i64 x5_1 ∧ v6 = .int .i64 x6_1 ∧ ba_ (tc_.l0 kq l0 l1 x5_1 x6_1 = some r) ∧ ba_ (kq ≤ k) ∧ ra_ w w')
 case atStart => exact ⟨(0), (0), (by first | rfl | (simp; done) | (simp [*]; done)), (by first | rfl | (simp; done) | (simp [*]; done)), H', ⟨Nat.le_refl _⟩, by repeat (first | exact ra_.refl _ | apply ra_.step)⟩
 case round =>
  clear H'
  try clear c1
  try clear p2
  obtain ⟨x5_1, x6_1, rfl, rfl, HA, HK1, ⟨m1, rfl⟩⟩ := hrel
  cases gk with
  | zero => exact absurd HA.out (by simp [tc_.l0])
  | succ k1 =>
   have H := HA.out
   clear HA
   simp only [tc_.l0] at H
   by_cases c3 : x6_1 < (l0.length : Int)
   ·rw [if_pos c3] at H
    have c3b0 : decide (x6_1 < (l0.length : Int)) = true := decide_eq_true c3
    clear c3
    by_cases c4 : 0 ≤ x6_1
    ·rw [if_pos c4] at H
     have c4b0 : decide (0 ≤ x6_1) = true := decide_eq_true c4
     clear c4
     by_cases c5 : (rd l0 x6_1) ≥ 0
     ·rw [if_pos c5] at H
      have c5b0 : decide (0 ≤ (rd l0 x6_1)) = true := decide_eq_true c5
      clear c5
      by_cases c6 : x6_1 < (l1.length : Int)
      ·rw [if_pos c6] at H
       have c6b0 : decide (x6_1 < (l1.length : Int)) = true := decide_eq_true c6
       clear c6
       by_cases c7 : (rd l0 x6_1) = (rd l1 x6_1)
       ·rw [if_pos c7] at H
        have c7b0 : ((rd l0 x6_1) == (rd l1 x6_1)) = true := beq_iff_eq.mpr c7
        have c7b1 : ((rd l0 x6_1) != (rd l1 x6_1)) = false := bne_eq_false_iff_eq.mpr c7
        clear c7
        have H' := ba_.mk H
        clear H
        have p101 : 0 ≤ (x6_1 : Int) := of_decide_eq_true (by first | (with_reducible assumption) | assumption)
        have q101 : x6_1 < (l0.length : Int) := of_decide_eq_true (by first | (with_reducible assumption) | assumption)
        obtain ⟨ad101, e101, hx101_0⟩ := Kd.nd_ HR0.out x6_1 p101 q101
        cases e101
        replace p101 := eq_true p101
        replace q101 := eq_true q101
        have p102 : 0 ≤ (x6_1 : Int) := of_decide_eq_true (by first | (with_reducible assumption) | assumption)
        have q102 : x6_1 < (l0.length : Int) := of_decide_eq_true (by first | (with_reducible assumption) | assumption)
        obtain ⟨ad102, e102, hx102_0⟩ := Kd.nd_ HR0.out x6_1 p102 q102
        obtain rfl : ad101 = ad102 := (by injection e102)
        replace p102 := eq_true p102
        replace q102 := eq_true q102
        have p103 : 0 ≤ (x6_1 : Int) := of_decide_eq_true (by first | (with_reducible assumption) | assumption)
        have q103 : x6_1 < (l1.length : Int) := of_decide_eq_true (by first | (with_reducible assumption) | assumption)
        obtain ⟨ad103, e103, hx103_0⟩ := Kd.nd_ HR1.out x6_1 p103 q103
        cases e103
        replace p103 := eq_true p103
        replace q103 := eq_true q103
        go_wp2
        repeat (go_quiet (fail); try go_wp2)
        go_roundg k1
        case measure => have := HK1.out; omega
        case rel => exact ⟨(x5_1), (wrap64 (x6_1 + 1)), (by first | rfl | (simp; done) | (simp [*]; done)), (by first | rfl | (simp; done) | (simp [*]; done)), H', ⟨by have := HK1.out; omega⟩, by repeat (first | exact ra_.refl _ | apply ra_.step)⟩
       ·rw [if_neg c7] at H
        have c7b0 : ((rd l0 x6_1) == (rd l1 x6_1)) = false := beq_eq_false_iff_ne.mpr c7
        have c7b1 : ((rd l0 x6_1) != (rd l1 x6_1)) = true := bne_iff_ne.mpr c7
        have H' := ba_.mk H
        clear H
        have p101 : 0 ≤ (x6_1 : Int) := of_decide_eq_true (by first | (with_reducible assumption) | assumption)
        have q101 : x6_1 < (l0.length : Int) := of_decide_eq_true (by first | (with_reducible assumption) | assumption)
        obtain ⟨ad101, e101, hx101_0⟩ := Kd.nd_ HR0.out x6_1 p101 q101
        cases e101
        replace p101 := eq_true p101
        replace q101 := eq_true q101
        have p102 : 0 ≤ (x6_1 : Int) := of_decide_eq_true (by first | (with_reducible assumption) | assumption)
        have q102 : x6_1 < (l0.length : Int) := of_decide_eq_true (by first | (with_reducible assumption) | assumption)
        obtain ⟨ad102, e102, hx102_0⟩ := Kd.nd_ HR0.out x6_1 p102 q102
        obtain rfl : ad101 = ad102 := (by injection e102)
        replace p102 := eq_true p102
        replace q102 := eq_true q102
        have p103 : 0 ≤ (x6_1 : Int) := of_decide_eq_true (by first | (with_reducible assumption) | assumption)
        have q103 : x6_1 < (l1.length : Int) := of_decide_eq_true (by first | (with_reducible assumption) | assumption)
        obtain ⟨ad103, e103, hx103_0⟩ := Kd.nd_ HR1.out x6_1 p103 q103
        cases e103
        replace p103 := eq_true p103
        replace q103 := eq_true q103
        go_wp2
        repeat (go_quiet (fail); try go_wp2)
        go_roundg k1
        case measure => have := HK1.out; omega
        case rel => exact ⟨(wrap64 (x5_1 + 1)), (wrap64 (x6_1 + 1)), (by first | rfl | (simp; done) | (simp [*]; done)), (by first | rfl | (simp; done) | (simp [*]; done)), H', ⟨by have := HK1.out; omega⟩, by repeat (first | exact ra_.refl _ | apply ra_.step)⟩
      ·rw [if_neg c6] at H
       exact absurd H (by simp)
     ·rw [if_neg c5] at H
      have c5b0 : decide (0 ≤ (rd l0 x6_1)) = false := decide_eq_false c5
      clear c5
      have H' := ba_.mk H
      clear H
      have p101 : 0 ≤ (x6_1 : Int) := of_decide_eq_true (by first | (with_reducible assumption) | assumption)
      have q101 : x6_1 < (l0.length : Int) := of_decide_eq_true (by first | (with_reducible assumption) | assumption)
      obtain ⟨ad101, e101, hx101_0⟩ := Kd.nd_ HR0.out x6_1 p101 q101
      cases e101
      replace p101 := eq_true p101
      replace q101 := eq_true q101
      go_wp2
      repeat (go_quiet (fail); try go_wp2)
      go_roundg k1
      case measure => have := HK1.out; omega
      case rel => exact ⟨(x5_1), (wrap64 (x6_1 + 1)), (by first | rfl | (simp; done) | (simp [*]; done)), (by first | rfl | (simp; done) | (simp [*]; done)), H', ⟨by have := HK1.out; omega⟩, by repeat (first | exact ra_.refl _ | apply ra_.step)⟩
    ·rw [if_neg c4] at H
     exact absurd H (by simp)
   ·rw [if_neg c3] at H
    have c3b0 : decide (x6_1 < (l0.length : Int)) = false := decide_eq_false c3
    clear c3
    obtain rfl := Option.some.inj H
    go_wp2
    repeat (go_quiet (fail); try go_wp2)
    go_ret
    exact ⟨by first | rfl | (simp; done) | (simp [*]; done), by repeat (first | exact ra_.refl _ | apply ra_.step)⟩
def sc_.l0 : Nat → List Int → List Int → Int → Option (List Int)
 | 0, _, _, _ => none
 | k + 1, x0, x3, x4 => if x4 < (x0.length : Int) then (if 0 ≤ x4 then (if (rd x0 x4) < 0 then (if x3.length < 17592186044416 then (sc_.l0 k x0 (x3 ++ [x4]) (wrap64 (x4 + 1))) else (none)) else (sc_.l0 k x0 x3 (wrap64 (x4 + 1)))) else (none)) else (some x3)
def sc_.f (k : Nat) (l0 : List Int) : Option (List Int) := sc_.l0 k l0 ([] : List Int) 0
theorem sc_.xc_ : ∀ k, (∀ y0 y1 y2, LeO (sc_.l0 k y0 y1 y2) (sc_.l0 (k + 1) y0 y1 y2))
 | 0 => fun _ _ _ r h => by simp [sc_.l0] at h
 | k + 1 => by
  have ih0 := sc_.xc_ k
  ·intro y0 y1 y2
   unfold sc_.l0
   repeat' first
   | (with_reducible exact ih0 _ _ _)
   | (with_reducible exact LeO.refl _)
   | (with_reducible exact LeO.none _)
   | (with_reducible refine LeO.ite ?_ ?_)
   | (with_reducible refine LeO.bind ?_ (fun _ => ?_))
   | exact ih0 _ _ _
   | exact LeO.none _
   | refine LeO.ite ?_ ?_
   | refine LeO.bind ?_ (fun _ => ?_)
theorem sc_.mono : ∀ a0 k, LeO (sc_.f k a0) (sc_.f (k + 1) a0) := by
 intro a0 k
 have ih0 := sc_.xc_ k
 unfold sc_.f
 repeat' first
   | (with_reducible exact ih0 _ _ _)
   | (with_reducible exact LeO.refl _)
   | (with_reducible exact LeO.none _)
   | (with_reducible refine LeO.ite ?_ ?_)
   | (with_reducible refine LeO.bind ?_ (fun _ => ?_))
   | exact ih0 _ _ _
   | exact LeO.none _
   | refine LeO.ite ?_ ?_
   | refine LeO.bind ?_ (fun _ => ?_)
set_option maxHeartbeats 8000000 in
set_option maxRecDepth 100000 in
theorem sc_.calls (k : Nat) (A0 : Option Addr) (c0 : Nat) (l0 : List Int) (r : List Int) (w : World) (hr0 : Kd.C (Kd.int .i64) w A0 l0.length l0) (hc0 : l0.length ≤ c0) (h : sc_.f k l0 = some r) :
  Calls Try.prog 54 #[.slice A0 l0.length c0] w fun e w' => ∃ v0_ : Value, e = .returned (v0_) ∧ Kd.R (Kd.int .i64) 3 w' w.heap.size (fun _ => True) v0_ r ∧ Below w.heap.size w w' := by
 have HR0 := ba_.mk hr0
 have HC0 := ba_.mk hc0
 clear hr0 hc0
 have HB := ba_.mk (Below.refl w.heap.size w)
 have H : (sc_.l0 k l0 ([] : List Int) 0) = some r := h
 clear h
 have H' := ba_.mk H
 clear H
 go_enter Try.func54, Try.ntmps54
 go_wp2
 go_loopg [3, 4] k (fun kq v3 v4 w' => ∃ (x3_1 : List Int) (x4_1 : Int), v4 = .int .i64 x4_1 ∧ ba_ (sc_.l0 kq l0 x3_1 x4_1 = some r) ∧ ba_ (kq ≤ k) ∧ ba_ (Kd.R (Kd.int .i64) 3 w' w.heap.size (fun _ => True) v3 x3_1) ∧ ba_ (Below w.heap.size w w'))
 case atStart => exact ⟨(([] : List Int)), (0), (by first | rfl | (simp; done) | (simp [*]; done)), H', ⟨Nat.le_refl _⟩, ⟨by first | exact Kd.uf_ _ _ _ _ _ | exact Kd.mh_ _ _ _ _ _ | exact Kd.ph_ _ _ _ _ _ | exact Kd.nh_ _ _ _ _ _ | exact Kd.oh_ _ _ _ _ _⟩, ⟨by repeat (first | (with_reducible first | exact HB.out | apply fa_ | apply ca_ | apply ga_) | exact HB.out)⟩⟩
 case round =>
  clear H'
  obtain ⟨x3_1, x4_1, rfl, HA, HK1, HO_3, HB⟩ := hrel
  cases gk with
  | zero => exact absurd HA.out (by simp [sc_.l0])
  | succ k1 =>
   have H := HA.out
   clear HA
   simp only [sc_.l0] at H
   by_cases c2 : x4_1 < (l0.length : Int)
   ·rw [if_pos c2] at H
    have c2b0 : decide (x4_1 < (l0.length : Int)) = true := decide_eq_true c2
    clear c2
    by_cases c3 : 0 ≤ x4_1
    ·rw [if_pos c3] at H
     have c3b0 : decide (0 ≤ x4_1) = true := decide_eq_true c3
     clear c3
     by_cases c4 : (rd l0 x4_1) < 0
     ·rw [if_pos c4] at H
      have c4b0 : decide ((rd l0 x4_1) < 0) = true := decide_eq_true c4
      clear c4
      by_cases c5 : x3_1.length < 17592186044416
      ·rw [if_pos c5] at H
       have LMc5 := ba_.mk c5
       clear c5
       obtain ⟨y105, hy105⟩ : ∃ y_ : List Int, y_ = (x3_1 ++ [x4_1]) := ⟨_, rfl⟩
       replace H : (sc_.l0 k1 l0 y105 (wrap64 (x4_1 + 1))) = some r := by first | (rw [hy105]; with_reducible exact H) | (have H2_ := (Option.bind_some _ _).symm.trans H; rw [hy105]; with_reducible exact H2_) | (have H2_ := (Option.bind_some _ _).symm.trans H; with_reducible exact H2_) | with_reducible exact H | (rw [hy105]; exact H) | exact H
       have Ny105 := ba_.mk hy105
       clear hy105
       have H' := ba_.mk H
       clear H
       have p104 : 0 ≤ (x4_1 : Int) := of_decide_eq_true (by first | (with_reducible assumption) | assumption)
       have q104 : x4_1 < (l0.length : Int) := of_decide_eq_true (by first | (with_reducible assumption) | assumption)
       obtain ⟨ad104, e104, hx104_0⟩ := Kd.nd_ HR0.out x4_1 p104 q104
       cases e104
       replace hx104_0 := (HB.out.cell (World.block_lt_of_cell? w _ hx104_0)).trans hx104_0
       replace p104 := eq_true p104
       replace q104 := eq_true q104
       go_wp2_with (first | ((with_reducible refine hd_ (b := .append) (xs := #[.tmp 16, .tmp 18]) rfl ?_); at_builtin; refine Kd.qe_ (Kd.int .i64) (w0 := w) w.heap.size rfl (.tmp 16) (.tmp 18) 27 3 (.int .i64 0) 8 rfl Try.underlying27 te_ rfl (by decide) (by omega) u3 x3_1 x4_1 [.int .i64 x4_1] (fun _ => True) (fun _ => False) rfl rfl ?aP (fun _ hk => hk.elim) ?aF ?aO ?aB ?aS ?aL ?_; (case aP => exact rfl); (case aB => exact (by repeat (first | (with_reducible first | exact HB.out | apply fa_ | apply ca_ | apply ga_) | exact HB.out))); (case aF => exact (fun _ _ => trivial)); (case aO => exact (by (with_reducible repeat (first | apply Kd.la_ | apply Kd.ka_ | apply Kd.ma_)); exact HO_3.out)); (case aS => exact (eb_ (by repeat (first | (with_reducible first | exact HB.out | apply fa_ | apply ca_ | apply ga_) | exact HB.out)))); (case aL => have := LMc5.out; omega); intro v106 w6 ho hb hg hat; rw [← Ny105.out] at ho; have n0_ := ba_.mk (hb); have n1_ := ba_.mk (ho); clear HB; clear HO_3; have HB := n0_; have HO107 := n1_; clear n0_ n1_; clear ho hb hg hat))
       go_roundg k1
       case measure => have := HK1.out; omega
       case rel => exact ⟨(y105), (wrap64 (x4_1 + 1)), (by first | rfl | (simp; done) | (simp [*]; done)), H', ⟨by have := HK1.out; omega⟩, ⟨by (with_reducible repeat (first | apply Kd.la_ | apply Kd.ka_ | apply Kd.ma_)); exact HO107.out⟩, ⟨by repeat (first | (with_reducible first | exact HB.out | apply fa_ | apply ca_ | apply ga_) | exact HB.out)⟩⟩
      ·rw [if_neg c5] at H
       exact absurd H (by simp)
     ·rw [if_neg c4] at H
      have c4b0 : decide ((rd l0 x4_1) < 0) = false := decide_eq_false c4
      clear c4
      have H' := ba_.mk H
      clear H
      have p104 : 0 ≤ (x4_1 : Int) := of_decide_eq_true (by first | (with_reducible assumption) | assumption)
      have q104 : x4_1 < (l0.length : Int) := of_decide_eq_true (by first | (with_reducible assumption) | assumption)
      obtain ⟨ad104, e104, hx104_0⟩ := Kd.nd_ HR0.out x4_1 p104 q104
      cases e104
      replace hx104_0 := (HB.out.cell (World.block_lt_of_cell? w _ hx104_0)).trans hx104_0
      replace p104 := eq_true p104
      replace q104 := eq_true q104
      go_wp2
      go_roundg k1
      case measure => have := HK1.out; omega
      case rel => exact ⟨(x3_1), (wrap64 (x4_1 + 1)), (by first | rfl | (simp; done) | (simp [*]; done)), H', ⟨by have := HK1.out; omega⟩, ⟨by (with_reducible repeat (first | apply Kd.la_ | apply Kd.ka_ | apply Kd.ma_)); exact HO_3.out⟩, ⟨by repeat (first | (with_reducible first | exact HB.out | apply fa_ | apply ca_ | apply ga_) | exact HB.out)⟩⟩
    ·rw [if_neg c3] at H
     exact absurd H (by simp)
   ·rw [if_neg c2] at H
    have c2b0 : decide (x4_1 < (l0.length : Int)) = false := decide_eq_false c2
    clear c2
    obtain rfl := Option.some.inj H
    go_wp2
    go_ret
    exact ⟨_, by first | rfl | (simp [bb_, cb_] <;> rfl) | (simp [*, bb_, cb_] <;> rfl), by (with_reducible repeat (first | apply Kd.la_ | apply Kd.ka_ | apply Kd.ma_)); exact HO_3.out, by repeat (first | (with_reducible first | exact HB.out | apply fa_ | apply ca_ | apply ga_) | exact HB.out)⟩
def bd_.f (a0 : Int) : Option (Int) := if (wrap64 (a0 * 2)) ≥ 32 then (some (Go.bits .xor .i64 (wrap64 (a0 * 2)) 37)) else (some (wrap64 (a0 * 2)))
set_option maxHeartbeats 8000000 in
set_option maxRecDepth 100000 in
theorem bd_.calls (a0 : Int) (r : Int) (w : World) (h : bd_.f a0 = some r) :
  Calls Try.prog 41 #[.int .i64 a0] w fun e w' => e = .returned (.int .i64 r) ∧ ra_ w w' := by
 have H : (if (wrap64 (a0 * 2)) ≥ 32 then (some (Go.bits .xor .i64 (wrap64 (a0 * 2)) 37)) else (some (wrap64 (a0 * 2)))) = some r := h
 clear h
 by_cases c2 : (wrap64 (a0 * 2)) ≥ 32
 ·rw [if_pos c2] at H
  have c2b0 : decide (32 ≤ (wrap64 (a0 * 2))) = true := decide_eq_true c2
  clear c2
  obtain rfl := Option.some.inj H
  go_enter Try.func41, Try.ntmps41
  go_wp2
  go_ret
  exact ⟨by first | rfl | (simp; done) | (simp [*]; done), by repeat (first | exact ra_.refl _ | apply ra_.step)⟩
 ·rw [if_neg c2] at H
  have c2b0 : decide (32 ≤ (wrap64 (a0 * 2))) = false := decide_eq_false c2
  clear c2
  obtain rfl := Option.some.inj H
  go_enter Try.func41, Try.ntmps41
  go_wp2
  go_ret
  exact ⟨by first | rfl | (simp; done) | (simp [*]; done), by repeat (first | exact ra_.refl _ | apply ra_.step)⟩
end Go.Proofs.Ytpkhgapifnjbeaa.U
end
section
namespace Go.Proofs.Ytpkhgapifnjbeaa.U
open Go.RowKit Go.Proofs.Ytpkhgapifnjbeaa.G Go.Proofs.Ytpkhgapifnjbeaa.Rs Go.Proofs.YtpkhgapifnjbeaaW.PrintWords Go.Proofs.YtpkhgapifnjbeaaW.PrintLast Go.Proofs.YtpkhgapifnjbeaaW.PrintMore
attribute [local go_sem] dd_ fd_ rd_ sd_ uc_ vc_ ed_ gd_
set_option linter.unusedVariables false
set_option linter.unusedSimpArgs false
end Go.Proofs.Ytpkhgapifnjbeaa.U
end
section
namespace Go.Proofs.Ytpkhgapifnjbeaa.G
set_option linter.unusedVariables false
set_option linter.unusedSimpArgs false
open Go.RowKit Go.Proofs.YtpkhgapifnjbeaaW.PrintWords Go.Proofs.YtpkhgapifnjbeaaW.PrintLast Go.Proofs.YtpkhgapifnjbeaaW.PrintMore Go.Proofs.Ytpkhgapifnjbeaa.Rs Go.Proofs.Ytpkhgapifnjbeaa.U
def errN (w c : List Int) : Nat → Nat
 | 0 => 0
 | m + 1 => errN w c m + if 0 ≤ w.getD m 0 ∧ w.getD m 0 ≠ c.getD m 0 then 1 else 0
theorem sy_ (w c : List Int) (m : Nat) : errN w c m ≤ m := by
 induction m with
 | zero => exact Nat.le_refl _
 | succ m ih => simp only [errN]; split <;> omega
def eraN (w : List Int) : Nat → List Int
 | 0 => []
 | m + 1 => eraN w m ++ if w.getD m 0 < 0 then [(m : Int)] else []
theorem es_ (w : List Int) (m : Nat) : (eraN w m).length ≤ m := by
 induction m with
 | zero => exact Nat.le_refl _
 | succ m ih => simp only [eraN, List.length_append]; split <;> simp <;> omega
theorem err_l0 (w c : List Int) (hl : w.length ≤ 1000) (hc : w.length ≤ c.length) : ∀ (d i k : Nat), i + d = w.length → d < k → tc_.l0 k w c ((errN w c i : Nat) : Int) (i : Int) = some ((errN w c w.length : Nat) : Int) := by
 intro d
 induction d with
 | zero =>
  intro i k hi hk
  obtain ⟨k, rfl⟩ : ∃ m, k = m + 1 := ⟨k - 1, by omega⟩
  simp only [tc_.l0]
  rw [if_neg (by omega)]
  obtain rfl : i = w.length := by omega
  rfl
 | succ d ih =>
  intro i k hi hk
  obtain ⟨k, rfl⟩ : ∃ m, k = m + 1 := ⟨k - 1, by omega⟩
  have hn := sy_ w c i
  have hs : wrap64 ((i : Int) + 1) = ((i + 1 : Nat) : Int) := by unfold wrap64; omega
  have hs2 : wrap64 (((errN w c i : Nat) : Int) + 1) = ((errN w c i + 1 : Nat) : Int) := by unfold wrap64; omega
  have := ih (i + 1) k (by omega) (by omega)
  simp only [errN] at this
  simp only [tc_.l0]
  rw [if_pos (by omega), if_pos (by omega), hs, hs2]
  simp only [zd_]
  by_cases h0 : 0 ≤ w.getD i 0
  ·rw [if_pos h0, if_pos (by omega)]
   by_cases h1 : w.getD i 0 = c.getD i 0
   ·rw [if_pos h1]; rw [if_neg (by simp only [h1]; simp), Nat.add_zero] at this; exact this
   ·rw [if_neg h1]; rw [if_pos ⟨h0, h1⟩] at this; exact this
  ·rw [if_neg h0]; rw [if_neg (fun h => h0 h.1), Nat.add_zero] at this; exact this
def nx_.f (w c : List Int) : Option Int := if w.length ≤ 1000 ∧ w.length ≤ c.length then some ((errN w c w.length : Nat) : Int) else none
theorem nx_.calls (A0 : Option Addr) (c0 : Nat) (l0 : List Int) (A1 : Option Addr) (c1 : Nat) (l1 : List Int) (r : Int) (w : World) (hr0 : Kd.C (Kd.int .i64) w A0 l0.length l0) (hc0 : l0.length ≤ c0) (hr1 : Kd.C (Kd.int .i64) w A1 l1.length l1) (hc1 : l1.length ≤ c1) (h : nx_.f l0 l1 = some r) :
  Calls Try.prog 56 #[.slice A0 l0.length c0, .slice A1 l1.length c1] w fun e w' => e = .returned (.int .i64 r) ∧ ra_ w w' := by
 unfold nx_.f at h
 by_cases hl : l0.length ≤ 1000 ∧ l0.length ≤ l1.length
 ·rw [if_pos hl] at h
  obtain rfl := Option.some.inj h
  exact tc_.calls 1002 A0 c0 l0 A1 c1 l1 _ w hr0 hc0 hr1 hc1 (err_l0 l0 l1 hl.1 hl.2 l0.length 0 1002 (by omega) (by omega))
 ·rw [if_neg hl] at h; cases h
theorem era_l0 (w : List Int) (hl : w.length ≤ 1000) : ∀ (d i k : Nat), i + d = w.length → d < k → sc_.l0 k w (eraN w i) (i : Int) = some (eraN w w.length) := by
 intro d
 induction d with
 | zero =>
  intro i k hi hk
  obtain ⟨k, rfl⟩ : ∃ m, k = m + 1 := ⟨k - 1, by omega⟩
  simp only [sc_.l0]
  rw [if_neg (by omega)]
  obtain rfl : i = w.length := by omega
  rfl
 | succ d ih =>
  intro i k hi hk
  obtain ⟨k, rfl⟩ : ∃ m, k = m + 1 := ⟨k - 1, by omega⟩
  have hn := es_ w i
  have hs : wrap64 ((i : Int) + 1) = ((i + 1 : Nat) : Int) := by unfold wrap64; omega
  have := ih (i + 1) k (by omega) (by omega)
  simp only [eraN] at this
  simp only [sc_.l0]
  rw [if_pos (by omega), if_pos (by omega), hs]
  simp only [zd_]
  by_cases h0 : w.getD i 0 < 0
  ·rw [if_pos h0, if_pos (by omega)]; rw [if_pos h0] at this; exact this
  ·rw [if_neg h0]; rw [if_neg h0, List.append_nil] at this; exact this
def up_.f (w : List Int) : Option (List Int) := if w.length ≤ 1000 then some (eraN w w.length) else none
theorem up_.calls (A0 : Option Addr) (c0 : Nat) (l0 : List Int) (r : List Int) (w : World) (hr0 : Kd.C (Kd.int .i64) w A0 l0.length l0) (hc0 : l0.length ≤ c0) (h : up_.f l0 = some r) :
  Calls Try.prog 54 #[.slice A0 l0.length c0] w fun e w' => ∃ v0_ : Value, e = .returned (v0_) ∧ Kd.R (Kd.int .i64) 3 w' w.heap.size (fun _ => True) v0_ r ∧ Below w.heap.size w w' := by
 unfold up_.f at h
 by_cases hl : l0.length ≤ 1000
 ·rw [if_pos hl] at h
  obtain rfl := Option.some.inj h
  exact sc_.calls 1002 A0 c0 l0 _ w hr0 hc0 (era_l0 l0 hl l0.length 0 1002 (by omega) (by omega))
 ·rw [if_neg hl] at h; cases h
def uk_.f (w c : List Int) : Option (List Int × Int) := if 6 ≤ c.length ∧ c.length ≤ 1000 ∧ w.length ≤ c.length then some (c.take (c.length - 6), ((errN w c w.length : Nat) : Int)) else none
theorem uk_.some {w c t : List Int} {u : Int} (h : uk_.f w c = some (t, u)) : 6 ≤ c.length ∧ c.length ≤ 1000 ∧ t = c.take (c.length - 6) ∧ nx_.f w c = some u := by
 unfold uk_.f at h
 by_cases hl : 6 ≤ c.length ∧ c.length ≤ 1000 ∧ w.length ≤ c.length
 ·rw [if_pos hl] at h
  simp only [Option.some.injEq, Prod.mk.injEq] at h
  refine ⟨hl.1, hl.2.1, h.1.symm, ?_⟩
  unfold nx_.f
  rw [if_pos (by omega), h.2]
 ·rw [if_neg hl] at h; cases h
end Go.Proofs.Ytpkhgapifnjbeaa.G
end
section
namespace Go.Proofs.Ytpkhgapifnjbeaa.V
open Go.RowKit Go.Proofs.Ytpkhgapifnjbeaa.G Go.Proofs.Ytpkhgapifnjbeaa.Rs Go.Proofs.YtpkhgapifnjbeaaW.PrintWords Go.Proofs.YtpkhgapifnjbeaaW.PrintLast Go.Proofs.YtpkhgapifnjbeaaW.PrintMore
attribute [local go_sem] dd_ fd_ rd_ sd_ uc_ vc_ ed_ gd_
set_option linter.unusedVariables false
set_option linter.unusedSimpArgs false
def errW : Option Int → Value
 | none => .nilIface
 | some c => .iface 0 (.int .i64 c)
theorem bb_ : errW none = .nilIface := rfl
theorem cb_ (c : Int) : errW (some c) = .iface 0 (.int .i64 c) := rfl
theorem te_ : (Try.prog.info? 3).map (fun i => (i.zero, i.size, i.bytes)) = some (some (.int .i64 0), 1, 8) := by kernel_rfl
def re_ (xs : List (List Int)) (i : Int) : (List Int) := xs.getD i.toNat ([] : List Int)
theorem yk_ {w : World} {A : Option Addr} {n : Nat} {xs : List (List Int)} (h : Kd.C (Kd.slice 3 (Kd.int .i64)) w A n xs) (i : Int) (h0 : 0 ≤ i) (h1 : i < n) : ∃ ad A0 c0, A = some ad ∧ w.cell? (ad.add i.toNat) = some (.slice A0 (re_ xs i).length c0) ∧ (re_ xs i).length ≤ c0 ∧ (Kd.int .i64).C w A0 (re_ xs i).length (re_ xs i) := by
 obtain ⟨ad, c, e, _, hK, hc0⟩ := Kd.ai_ h ([] : List Int) i h0 h1
 have hc : ∀ j u, c[j]? = some u → w.cell? (ad.add (i.toNat * 1 + j)) = some u := hc0
 obtain ⟨A0, c0, rfl, l0, g0⟩ := hK
 exact ⟨ad, A0, c0, e, by have hq := hc 0 _ rfl; rwa [Nat.mul_one, Nat.add_zero] at hq, l0, g0⟩
end Go.Proofs.Ytpkhgapifnjbeaa.V
end
